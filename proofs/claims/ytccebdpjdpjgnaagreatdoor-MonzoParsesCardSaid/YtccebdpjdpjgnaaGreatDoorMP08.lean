/-
parts of the walks and of the plain laws: PdecimalCanonical Pdecimalpiecestrim Pdecimalcut PslicesReversebytebyte
-/
import Derived.Test.YtccebdpjdpjgnaaGreatDoorMP05
set_option linter.unusedVariables false
set_option linter.unusedSimpArgs false
section
namespace Go.Proofs.YtccebdpjdpjgnaaGreatDoor.P
open Go.RowKit Go.Proofs.YtccebdpjdpjgnaaGreatDoorW.PrintWords Go.Proofs.YtccebdpjdpjgnaaGreatDoorW.PrintLast Go.Proofs.YtccebdpjdpjgnaaGreatDoorW.PrintMore
attribute [local go_sem] max2_int min2_int max_two min_two max_three min_three max_four min_four
def decimal_Canonical.l0 : Nat → ByteArray → List Int → Int → Int → Option (Bool)
 | 0, _, _, _, _ => none
 | k + 1, x0, x6, x7, x8 => if x8 < x7 then (if 0 ≤ x8 then (if x8 < (x6.length : Int) then (if (rd x6 x8) < 48 then (some false) else (if (rd x6 x8) > 57 then (some false) else (decimal_Canonical.l0 k x0 x6 x7 (wrap64 (x8 + 1))))) else (none)) else (none)) else (if (x0.size : Int) = 1 then (some true) else (if (x0.size : Int) > 1 then (if 0 < (x0.size : Int) then (some ((bt x0 0) != 48)) else (none)) else (some false)))
def decimal_Canonical.f (k : Nat) (a0 : ByteArray) : Option (Bool) := if a0.size ≤ 9223372036854775807 then ((some (bytesOf a0 : List Int)).bind fun y121 => (decimal_Canonical.l0 k a0 y121 (y121.length : Int) 0)) else (none)
set_option maxHeartbeats 8000000 in
set_option maxRecDepth 100000 in
theorem decimal_Canonical.calls (k : Nat) (a0 : ByteArray) (r : Bool) (w : World) (h : decimal_Canonical.f k a0 = some r) :
  Calls Tryz.prog 262 #[.string a0] w fun e w' => e = .returned (.bool r) ∧ Below w.heap.size w w' := by
 have HB := Aside0.mk (Below.refl w.heap.size w)
 have H : (if a0.size ≤ 9223372036854775807 then ((some (bytesOf a0 : List Int)).bind fun y121 => (decimal_Canonical.l0 k a0 y121 (y121.length : Int) 0)) else (none)) = some r := h
 clear h
 by_cases c2 : a0.size ≤ 9223372036854775807
 case neg => rw [if_neg c2] at H; exact absurd H (by simp)
 rw [if_pos c2] at H
 have c2b0 := eq_true c2
 have c2b1 : decide (a0.size ≤ 9223372036854775807) = true := decide_eq_true c2
 try have c2b2 : (9223372036854775807 < a0.size) = False := eq_false (Nat.not_lt.2 c2)
 clear c2
 obtain ⟨y121, hy121⟩ : ∃ y_ : List Int, y_ = (bytesOf a0) := ⟨_, rfl⟩
 replace H : (decimal_Canonical.l0 k a0 y121 (y121.length : Int) 0) = some r := by first | (rw [hy121]; with_reducible exact H) | (have H2_ := (Option.bind_some _ _).symm.trans H; rw [hy121]; with_reducible exact H2_) | (have H2_ := (Option.bind_some _ _).symm.trans H; with_reducible exact H2_) | with_reducible exact H | (rw [hy121]; exact H) | exact H
 have Ny121 := Aside0.mk hy121
 clear hy121
 have H' := Aside0.mk H
 clear H
 go_enter Tryz.func262, Tryz.ntmps262
 go_wp2_with (first | ((with_reducible refine gate_dst (N := 6) rfl ?_); (try (refine gate_guard (by rfl) ?_; dsimp only)); refine Kd.V_bytes _ 5 rfl (N := 6) rfl 36 191 _ rfl a0 rfl Tryz.underlying36 Tryz.underlying191 Tryz.underlying5 (ok := fun k_ => w.heap.size ≤ k_) (Nat.le_refl _) (of_decide_eq_true (by assumption)) (Below.refl _ _) (Nat.le_refl _) ?_; intro v122 w3 ho4 hb hg_ hnew_; clear hg_ hnew_; (first | rw [← Ny121.out] at ho4 | (simp only [Int.reduceToNat] at ho4; rw [← Ny121.out] at ho4)); have HO123 := Aside0.mk (Kd.V_lower (Kd.V_mono (ok' := fun k_ => True) ho4 (fun k_ hk_ => trivial)) (below_size (by apply_rules [HB.out, below_alloc, pw_below_drewN, below_drew1]))); replace HB := Aside0.mk (below_step (by apply_rules [HB.out, below_alloc, pw_below_drewN, below_drew1]) hb); clear hb ho4; obtain ⟨Ao5, co5, eo5⟩ := Kd.V_slice HO123.out; subst eo5))
 go_loopg [8] k (fun kq v8 w' => ∃ (x8_1 : Int), v8 = .int .i64 x8_1 ∧ Aside0 (decimal_Canonical.l0 kq a0 y121 (y121.length : Int) x8_1 = some r) ∧ Aside0 (kq ≤ k) ∧ Aside0 (Kd.V (Kd.int .u8) 5 w' w.heap.size (fun _ => True) (.slice Ao5 y121.length co5) y121) ∧ Aside0 (Below w.heap.size w w'))
 case atStart => exact ⟨(0), (by first | rfl | (simp; done) | (simp [*]; done)), H', ⟨Nat.le_refl _⟩, ⟨by apply_rules [HO123.out, Kd.V_alloc, Kd.V_drewN, Kd.V_drew]⟩, ⟨by apply_rules [HB.out, below_alloc, pw_below_drewN, below_drew1]⟩⟩
 case round =>
  clear H'
  obtain ⟨x8_1, rfl, HA, HK1, HO_6, HB⟩ := hrel
  cases gk with
  | zero => exact absurd HA.out (by simp [decimal_Canonical.l0])
  | succ k1 =>
   have H := HA.out
   clear HA
   simp only [decimal_Canonical.l0] at H
   by_cases c6 : x8_1 < (y121.length : Int)
   ·rw [if_pos c6] at H
    have c6b0 : decide (x8_1 < (y121.length : Int)) = true := decide_eq_true c6
    clear c6
    by_cases c7 : 0 ≤ x8_1
    case neg => rw [if_neg c7] at H; exact absurd H (by simp)
    rw [if_pos c7] at H
    have c7b0 : decide (0 ≤ x8_1) = true := decide_eq_true c7
    clear c7
    by_cases c8 : x8_1 < (y121.length : Int)
    case neg => rw [if_neg c8] at H; exact absurd H (by simp)
    rw [if_pos c8] at H
    have c8b0 : decide (x8_1 < (y121.length : Int)) = true := decide_eq_true c8
    clear c8
    by_cases c9 : (rd y121 x8_1) < 48
    ·rw [if_pos c9] at H
     have c9b0 : decide ((rd y121 x8_1) < 48) = true := decide_eq_true c9
     clear c9
     obtain rfl := Option.some.inj H
     have p124 : 0 ≤ (x8_1 : Int) := of_decide_eq_true (by assumption)
     have q124 : x8_1 < (y121.length : Int) := of_decide_eq_true (by assumption)
     obtain ⟨ad124, e124, hx124_0⟩ := Kd.at_int (Kd.V_reads' HO_6.out).2.2 x8_1 p124 q124
     cases e124
     replace p124 := eq_true p124
     replace q124 := eq_true q124
     go_wp2
     go_ret
     exact ⟨by first | rfl | simp [*], by apply_rules [HB.out, below_alloc, pw_below_drewN, below_drew1]⟩
    ·rw [if_neg c9] at H
     have c9b0 : decide ((rd y121 x8_1) < 48) = false := decide_eq_false c9
     clear c9
     by_cases c10 : (rd y121 x8_1) > 57
     ·rw [if_pos c10] at H
      have c10b0 : decide (57 < (rd y121 x8_1)) = true := decide_eq_true c10
      clear c10
      obtain rfl := Option.some.inj H
      have p124 : 0 ≤ (x8_1 : Int) := of_decide_eq_true (by assumption)
      have q124 : x8_1 < (y121.length : Int) := of_decide_eq_true (by assumption)
      obtain ⟨ad124, e124, hx124_0⟩ := Kd.at_int (Kd.V_reads' HO_6.out).2.2 x8_1 p124 q124
      cases e124
      replace p124 := eq_true p124
      replace q124 := eq_true q124
      go_wp2
      go_ret
      exact ⟨by first | rfl | simp [*], by apply_rules [HB.out, below_alloc, pw_below_drewN, below_drew1]⟩
     ·rw [if_neg c10] at H
      have c10b0 : decide (57 < (rd y121 x8_1)) = false := decide_eq_false c10
      clear c10
      have H' := Aside0.mk H
      clear H
      have p124 : 0 ≤ (x8_1 : Int) := of_decide_eq_true (by assumption)
      have q124 : x8_1 < (y121.length : Int) := of_decide_eq_true (by assumption)
      obtain ⟨ad124, e124, hx124_0⟩ := Kd.at_int (Kd.V_reads' HO_6.out).2.2 x8_1 p124 q124
      cases e124
      replace p124 := eq_true p124
      replace q124 := eq_true q124
      go_wp2
      go_roundg k1
      case measure => have := HK1.out; omega
      case rel => exact ⟨(wrap64 (x8_1 + 1)), (by first | rfl | (simp; done) | (simp [*]; done)), H', ⟨by have := HK1.out; omega⟩, ⟨by apply_rules [HO_6.out, Kd.V_alloc, Kd.V_drewN, Kd.V_drew]⟩, ⟨by apply_rules [HB.out, below_alloc, pw_below_drewN, below_drew1]⟩⟩
   ·rw [if_neg c6] at H
    have c6b0 : decide (x8_1 < (y121.length : Int)) = false := decide_eq_false c6
    clear c6
    by_cases c11 : (a0.size : Int) = 1
    ·rw [if_pos c11] at H
     have c11b0 : ((a0.size : Int) == 1) = true := beq_iff_eq.mpr c11
     have c11b1 : ((a0.size : Int) != 1) = false := bne_eq_false_iff_eq.mpr c11
     clear c11
     obtain rfl := Option.some.inj H
     go_wp2
     go_ret
     exact ⟨by first | rfl | simp [*], by apply_rules [HB.out, below_alloc, pw_below_drewN, below_drew1]⟩
    ·rw [if_neg c11] at H
     have c11b0 : ((a0.size : Int) == 1) = false := beq_eq_false_iff_ne.mpr c11
     have c11b1 : ((a0.size : Int) != 1) = true := bne_iff_ne.mpr c11
     by_cases c12 : (a0.size : Int) > 1
     ·rw [if_pos c12] at H
      have c12b0 : decide (1 < (a0.size : Int)) = true := decide_eq_true c12
      have c12b1 : decide (1 < a0.size) = true := decide_eq_true (by omega)
      clear c12
      by_cases c13 : 0 < (a0.size : Int)
      case neg => rw [if_neg c13] at H; exact absurd H (by simp)
      rw [if_pos c13] at H
      have c13b0 : decide (0 < (a0.size : Int)) = true := decide_eq_true c13
      have c13b1 : decide (0 < a0.size) = true := decide_eq_true (by omega)
      clear c13
      obtain rfl := Option.some.inj H
      have p14 : 0 ≤ (0 : Int) := (by omega)
      have q14 : 0 < a0.size := (by have : (0 : Int) < (a0.size : Int) := of_decide_eq_true (by assumption); omega)
      have hx14 : ∀ h : 0 < a0.size, ((a0[0]'h).toNat : Int) = bt a0 0 := bt_at a0 0
      clear p14
      have qi14 : (0 < (a0.size : Int)) = True := eq_true (of_decide_eq_true (by assumption))
      replace q14 := eq_true q14
      go_wp2
      go_ret
      exact ⟨by first | rfl | simp [*], by apply_rules [HB.out, below_alloc, pw_below_drewN, below_drew1]⟩
     ·rw [if_neg c12] at H
      have c12b0 : decide (1 < (a0.size : Int)) = false := decide_eq_false c12
      have c12b1 : decide (1 < a0.size) = false := decide_eq_false (by omega)
      clear c12
      obtain rfl := Option.some.inj H
      go_wp2
      go_ret
      exact ⟨by first | rfl | simp [*], by apply_rules [HB.out, below_alloc, pw_below_drewN, below_drew1]⟩
def decimal_pieces_trim.l0 : Nat → List Int → Option (List Int)
 | 0, _ => none
 | k + 1, x0 => if (x0.length : Int) > 0 then (if 0 ≤ (wrap64 ((x0.length : Int) - 1)) then (if (wrap64 ((x0.length : Int) - 1)) < (x0.length : Int) then (if (rd x0 (wrap64 ((x0.length : Int) - 1))) = 0 then (if (wrap64 ((x0.length : Int) - 1)) ≤ (x0.length : Int) then (decimal_pieces_trim.l0 k (x0.take ((wrap64 ((x0.length : Int) - 1)) : Int).toNat)) else (none)) else (some x0)) else (none)) else (none)) else (some x0)
def decimal_pieces_trim.f (k : Nat) (l0 : List Int) : Option (List Int) := decimal_pieces_trim.l0 k l0
set_option maxHeartbeats 8000000 in
set_option maxRecDepth 100000 in
theorem decimal_pieces_trim.calls (k : Nat) (P0_ : Nat → Prop) (u9000_ : Value) (l0 : List Int) (r : List Int) (w0 w : World) (hB : Below w0.heap.size w0 w) (ho0 : Kd.R (Kd.int .u64) 139 w w0.heap.size P0_ u9000_ l0) (h : decimal_pieces_trim.f k l0 = some r) :
  Calls Tryz.prog 173 #[u9000_] w fun e w' => ∃ v0_ : Value, e = .returned (v0_) ∧ Kd.R (Kd.int .u64) 139 w' w0.heap.size (fun k_ => (P0_ k_ ∨ w.heap.size ≤ k_)) v0_ r ∧ Below w0.heap.size w0 w' ∧ Kept w w' (fun k_ => P0_ k_) := by
 have HO0 := Aside0.mk (show Kd.R (Kd.int .u64) 139 w w0.heap.size (fun k_ => (P0_ k_ ∨ w.heap.size ≤ k_)) u9000_ l0 from Kd.R_mono ho0 (fun k_ hk => (.inl hk)))
 have HK := Aside0.mk (Kept.refl w (fun k_ => P0_ k_))
 have HW0 := Aside0.mk hB.size
 have HB := Aside0.mk hB
 clear hB
 have H : (decimal_pieces_trim.l0 k l0) = some r := h
 clear h
 have H' := Aside0.mk H
 clear H
 go_enter Tryz.func173, Tryz.ntmps173
 go_wp2
 go_loopg [0] k (fun kq v0 w' => ∃ (x0_1 : List Int), Aside0 (decimal_pieces_trim.l0 kq x0_1 = some r) ∧ Aside0 (kq ≤ k) ∧ Aside0 (Kd.R (Kd.int .u64) 139 w' w0.heap.size (fun k_ => (P0_ k_ ∨ w.heap.size ≤ k_)) v0 x0_1) ∧ Aside0 (Kept w w' (fun k_ => P0_ k_)) ∧ Aside0 (Below w0.heap.size w0 w'))
 case atStart => exact ⟨(l0), H', ⟨Nat.le_refl _⟩, ⟨by apply_rules [HO0.out, Kd.R_alloc, Kd.R_drewN, Kd.R_drew]⟩, ⟨by repeat (first | (with_reducible first | exact HK.out | apply Kept.alloc | apply Kept.drewN | apply Kept.drew) | exact HK.out)⟩, ⟨by apply_rules [HB.out, below_alloc, pw_below_drewN, below_drew1]⟩⟩
 case round =>
  clear H'
  obtain ⟨x0_1, HA, HK1, HO_0, HK, HB⟩ := hrel
  cases gk with
  | zero => exact absurd HA.out (by simp [decimal_pieces_trim.l0])
  | succ k1 =>
   have H := HA.out
   clear HA
   simp only [decimal_pieces_trim.l0] at H
   by_cases c2 : (x0_1.length : Int) > 0
   ·rw [if_pos c2] at H
    have c2b0 : decide (0 < (x0_1.length : Int)) = true := decide_eq_true c2
    have c2b1 : decide (0 < x0_1.length) = true := decide_eq_true (by omega)
    clear c2
    obtain ⟨ji3, hji3⟩ : ∃ j_ : Int, (wrap64 ((x0_1.length : Int) - 1)) = j_ := ⟨_, rfl⟩
    replace H : (if 0 ≤ (ji3) then (if (ji3) < (x0_1.length : Int) then (if (rd x0_1 (ji3)) = 0 then (if (ji3) ≤ (x0_1.length : Int) then (decimal_pieces_trim.l0 k1 (x0_1.take ((ji3) : Int).toNat)) else (none)) else (some x0_1)) else (none)) else (none)) = some r := by first | (rw [hji3] at H; exact H) | (simp only [hji3] at H ⊢; exact H)
    have hji3w : (IntKind.i64.wrap ((x0_1.length : Int) - 1)) = ji3 := (i64_w _).trans hji3
    by_cases c4 : 0 ≤ (ji3)
    case neg => rw [if_neg c4] at H; exact absurd H (by simp)
    rw [if_pos c4] at H
    have c4b0 : decide (0 ≤ (ji3)) = true := decide_eq_true c4
    clear c4
    by_cases c5 : (ji3) < (x0_1.length : Int)
    case neg => rw [if_neg c5] at H; exact absurd H (by simp)
    rw [if_pos c5] at H
    have c5b0 : decide ((ji3) < (x0_1.length : Int)) = true := decide_eq_true c5
    clear c5
    by_cases c6 : (rd x0_1 (ji3)) = 0
    ·rw [if_pos c6] at H
     have c6b0 : ((rd x0_1 (ji3)) == 0) = true := beq_iff_eq.mpr c6
     have c6b1 : ((rd x0_1 (ji3)) != 0) = false := bne_eq_false_iff_eq.mpr c6
     clear c6
     by_cases c7 : (ji3) ≤ (x0_1.length : Int)
     case neg => rw [if_neg c7] at H; exact absurd H (by simp)
     rw [if_pos c7] at H
     have c7b0 := eq_true c7
     have c7b1 : decide ((ji3) ≤ (x0_1.length : Int)) = true := decide_eq_true c7
     clear c7
     obtain ⟨y137, hy137⟩ : ∃ y_ : List Int, y_ = (x0_1.take ((ji3) : Int).toNat) := ⟨_, rfl⟩
     replace H : (decimal_pieces_trim.l0 k1 y137) = some r := by first | (rw [hy137]; with_reducible exact H) | (have H2_ := (Option.bind_some _ _).symm.trans H; rw [hy137]; with_reducible exact H2_) | (have H2_ := (Option.bind_some _ _).symm.trans H; with_reducible exact H2_) | with_reducible exact H | (rw [hy137]; exact H) | exact H
     have Ny137 := Aside0.mk hy137
     clear hy137
     have H' := Aside0.mk H
     clear H
     obtain ⟨Ao8, co8, eo8⟩ := Kd.R_slice HO_0.out
     subst eo8
     have p136 : 0 ≤ ((ji3) : Int) := of_decide_eq_true (by assumption)
     have q136 : (ji3) < (x0_1.length : Int) := of_decide_eq_true (by assumption)
     obtain ⟨ad136, e136, hx136_0⟩ := Kd.at_int (Kd.R_reads' HO_0.out).2.2 (ji3) p136 q136
     cases e136
     replace p136 := eq_true p136
     replace q136 := eq_true q136
     have q9 : ((ji3) : Int) ≤ ((x0_1.length : Int) : Int) := of_decide_eq_true (by assumption)
     obtain ⟨i09, hi09, _, hsz9, _⟩ := info_parts info139
     have hcut9 := cut_to (P := Tryz.prog) 141 139 .i64 Tryz.underlying141 hi09 (some ad136) x0_1.length co8 (ji3) (of_decide_eq_true (by assumption)) q9 (Kd.R_reads' HO_0.out).2.1
     have hr9 := Kd.R_take (m := ((ji3) : Int).toNat) HO_0.out (by omega)
     have hy9 : y137.length = ((ji3) : Int).toNat := (by rw [Ny137.out, List.length_take]; omega)
     rw [← Ny137.out] at hr9
     rw [← hy9] at hr9 hcut9
     clear hy9 hi09 hsz9 HO_0
     have HO139 := Aside0.mk hr9
     clear hr9
     replace q9 := eq_true q9
     go_wp2
     go_roundg k1
     case measure => have := HK1.out; omega
     case rel => exact ⟨(y137), H', ⟨by have := HK1.out; omega⟩, ⟨by apply_rules [HO139.out, Kd.R_alloc, Kd.R_drewN, Kd.R_drew]⟩, ⟨by repeat (first | (with_reducible first | exact HK.out | apply Kept.alloc | apply Kept.drewN | apply Kept.drew) | exact HK.out)⟩, ⟨by apply_rules [HB.out, below_alloc, pw_below_drewN, below_drew1]⟩⟩
    ·rw [if_neg c6] at H
     have c6b0 : ((rd x0_1 (ji3)) == 0) = false := beq_eq_false_iff_ne.mpr c6
     have c6b1 : ((rd x0_1 (ji3)) != 0) = true := bne_iff_ne.mpr c6
     obtain rfl := Option.some.inj H
     obtain ⟨Ao10, co10, eo10⟩ := Kd.R_slice HO_0.out
     subst eo10
     have p136 : 0 ≤ ((ji3) : Int) := of_decide_eq_true (by assumption)
     have q136 : (ji3) < (x0_1.length : Int) := of_decide_eq_true (by assumption)
     obtain ⟨ad136, e136, hx136_0⟩ := Kd.at_int (Kd.R_reads' HO_0.out).2.2 (ji3) p136 q136
     cases e136
     replace p136 := eq_true p136
     replace q136 := eq_true q136
     go_wp2
     go_ret
     exact ⟨_, by first | rfl | (simp [errW_none, errW_some] <;> rfl) | (simp only [← hji3]; first | rfl | (simp [errW_none, errW_some] <;> rfl)) | (simp [*, errW_none, errW_some] <;> rfl), by (with_reducible repeat (first | apply Kd.R_alloc | apply Kd.R_drewN | apply Kd.R_drew)); exact HO_0.out, by apply_rules [HB.out, below_alloc, pw_below_drewN, below_drew1], by repeat (first | (with_reducible first | exact HK.out | apply Kept.alloc | apply Kept.drewN | apply Kept.drew) | exact HK.out)⟩
   ·rw [if_neg c2] at H
    have c2b0 : decide (0 < (x0_1.length : Int)) = false := decide_eq_false c2
    have c2b1 : decide (0 < x0_1.length) = false := decide_eq_false (by omega)
    clear c2
    obtain rfl := Option.some.inj H
    obtain ⟨Ao11, co11, eo11⟩ := Kd.R_slice HO_0.out
    subst eo11
    go_wp2
    go_ret
    exact ⟨_, by first | rfl | simp [*], by (with_reducible repeat (first | apply Kd.R_alloc | apply Kd.R_drewN | apply Kd.R_drew)); exact HO_0.out, by apply_rules [HB.out, below_alloc, pw_below_drewN, below_drew1], by repeat (first | (with_reducible first | exact HK.out | apply Kept.alloc | apply Kept.drewN | apply Kept.drew) | exact HK.out)⟩
end Go.Proofs.YtccebdpjdpjgnaaGreatDoor.P
end
section
namespace Go.Proofs.YtccebdpjdpjgnaaGreatDoor.P
open Go.RowKit Go.Proofs.YtccebdpjdpjgnaaGreatDoorW.PrintWords Go.Proofs.YtccebdpjdpjgnaaGreatDoorW.PrintLast Go.Proofs.YtccebdpjdpjgnaaGreatDoorW.PrintMore
attribute [local go_sem] max2_int min2_int max_two min_two max_three min_three max_four min_four
mutual
def decimal_cut.l0 : Nat → ByteArray → List Int → Int → Option (List Int)
 | 0, _, _, _ => none
 | k + 1, x0, x3, x4 => if x4 > 0 then (if 0 ≤ (mx 0 (wrap64 (x4 - 9))) then (if (mx 0 (wrap64 (x4 - 9))) ≤ x4 then (if x4 ≤ (x0.size : Int) then (if (x0.extract ((mx 0 (wrap64 (x4 - 9))) : Int).toNat (x4 : Int).toNat).size ≤ 9223372036854775807 then ((some (bytesOf (x0.extract ((mx 0 (wrap64 (x4 - 9))) : Int).toNat (x4 : Int).toNat) : List Int)).bind fun y146 => (decimal_cut.l1 k x0 x3 x4 0 y146 (y146.length : Int) 0)) else (none)) else (none)) else (none)) else (none)) else ((decimal_pieces_trim.f k x3).bind fun t143 => (some t143))
def decimal_cut.l1 : Nat → ByteArray → List Int → Int → Int → List Int → Int → Int → Option (List Int)
 | 0, _, _, _, _, _, _, _ => none
 | k + 1, x0, x3, x4, x5, x25, x26, x27 => if x27 < x26 then (if 0 ≤ x27 then (if x27 < (x25.length : Int) then (decimal_cut.l1 k x0 x3 x4 (IntKind.u64.wrap ((IntKind.u64.wrap (10 * x5)) + (((rd x25 x27) - 48) % 256))) x25 x26 (wrap64 (x27 + 1))) else (none)) else (none)) else (if x3.length < 17592186044416 then (decimal_cut.l0 k x0 (x3 ++ [x5]) (wrap64 (x4 - 9))) else (none))
end
def decimal_cut.f (k : Nat) (a0 : ByteArray) : Option (List Int) := if 0 ≤ (wrap64 ((wrap64 ((a0.size : Int) / 9)) + 1)) then (if (wrap64 ((wrap64 ((a0.size : Int) / 9)) + 1) : Int).toNat ≤ 35184372088832 then (decimal_cut.l0 k a0 (([] : List Int)) (a0.size : Int)) else (none)) else (none)
set_option maxHeartbeats 8000000 in
set_option maxRecDepth 100000 in
theorem decimal_cut.calls (k : Nat) (a0 : ByteArray) (r : List Int) (w : World) (h : decimal_cut.f k a0 = some r) :
  Calls Tryz.prog 108 #[.string a0] w fun e w' => ∃ v0_ : Value, e = .returned (v0_) ∧ Kd.R (Kd.int .u64) 139 w' w.heap.size (fun _ => True) v0_ r ∧ Below w.heap.size w w' := by
 have HB := Aside0.mk (Below.refl w.heap.size w)
 have H : (if 0 ≤ (wrap64 ((wrap64 ((a0.size : Int) / 9)) + 1)) then (if (wrap64 ((wrap64 ((a0.size : Int) / 9)) + 1) : Int).toNat ≤ 35184372088832 then (decimal_cut.l0 k a0 (([] : List Int)) (a0.size : Int)) else (none)) else (none)) = some r := h
 clear h
 obtain ⟨ji2, hji2⟩ : ∃ j_ : Int, (wrap64 ((wrap64 ((a0.size : Int) / 9)) + 1)) = j_ := ⟨_, rfl⟩
 replace H : (if 0 ≤ (ji2) then (if (ji2 : Int).toNat ≤ 35184372088832 then (decimal_cut.l0 k a0 (([] : List Int)) (a0.size : Int)) else (none)) else (none)) = some r := by first | (rw [hji2] at H; exact H) | (simp only [hji2] at H ⊢; exact H)
 have hji2w : (IntKind.i64.wrap ((wrap64 ((a0.size : Int) / 9)) + 1)) = ji2 := (i64_w _).trans hji2
 by_cases c3 : 0 ≤ (ji2)
 case neg => rw [if_neg c3] at H; exact absurd H (by simp)
 rw [if_pos c3] at H
 have c3b0 := eq_true c3
 have c3b1 : decide (0 ≤ (ji2)) = true := decide_eq_true c3
 clear c3
 by_cases c4 : (ji2 : Int).toNat ≤ 35184372088832
 case neg => rw [if_neg c4] at H; exact absurd H (by simp)
 rw [if_pos c4] at H
 have c4b0 := eq_true c4
 have c4b1 : decide ((ji2 : Int).toNat ≤ 35184372088832) = true := decide_eq_true c4
 clear c4
 obtain ⟨y140, hy140⟩ : ∃ y_ : List Int, y_ = (([] : List Int)) := ⟨_, rfl⟩
 replace H : (decimal_cut.l0 k a0 y140 (a0.size : Int)) = some r := by first | (rw [hy140]; with_reducible exact H) | (have H2_ := (Option.bind_some _ _).symm.trans H; rw [hy140]; with_reducible exact H2_) | (have H2_ := (Option.bind_some _ _).symm.trans H; with_reducible exact H2_) | with_reducible exact H | (rw [hy140]; exact H) | exact H
 have Ny140 := Aside0.mk hy140
 clear hy140
 have H' := Aside0.mk H
 clear H
 go_enter Tryz.func108, Tryz.ntmps108
 go_wp2_with (first | ((with_reducible refine gate_dst (N := 12) rfl ?_); refine Kd.R_makecap (Kd.int .u64) _ 139 rfl (N := 12) rfl 141 _ _ rfl ji2 rfl rfl Tryz.underlying141 (.int .u64 0) 8 info139 rfl (by decide) (by omega) (ok := fun _ => True) trivial (of_decide_eq_true (by assumption)) (Nat.le_trans (Nat.mul_le_mul_right _ (of_decide_eq_true (by assumption) : ji2.toNat ≤ 35184372088832)) (by omega)) (Below.refl _ _) (Nat.le_refl _) ?_; intro v141 w5 ho6 hb hg_ hnew_; clear hg_ hnew_; (first | rw [← Ny140.out] at ho6 | (simp only [Int.reduceToNat] at ho6; rw [← Ny140.out] at ho6)); have HO142 := Aside0.mk (Kd.R_lower ho6 (below_size (by apply_rules [HB.out, below_alloc, pw_below_drewN, below_drew1]))); replace HB := Aside0.mk (below_step (by apply_rules [HB.out, below_alloc, pw_below_drewN, below_drew1]) hb); clear hb ho6))
 go_loopg [3, 4] k (fun kq v3 v4 w' => ∃ (x3_1 : List Int) (x4_1 : Int), v4 = .int .i64 x4_1 ∧ Aside0 (decimal_cut.l0 kq a0 x3_1 x4_1 = some r) ∧ Aside0 (kq ≤ k) ∧ Aside0 (Kd.R (Kd.int .u64) 139 w' w.heap.size (fun _ => True) v3 x3_1) ∧ Aside0 (Below w.heap.size w w'))
 case atStart => exact ⟨(y140), ((a0.size : Int)), (by first | rfl | (simp; done) | (simp [*]; done)), H', ⟨Nat.le_refl _⟩, ⟨by apply_rules [HO142.out, Kd.R_alloc, Kd.R_drewN, Kd.R_drew]⟩, ⟨by apply_rules [HB.out, below_alloc, pw_below_drewN, below_drew1]⟩⟩
 case round =>
  clear H'
  obtain ⟨x3_1, x4_1, rfl, HA, HK1, HO_3, HB⟩ := hrel
  cases gk with
  | zero => exact absurd HA.out (by simp [decimal_cut.l0])
  | succ k1 =>
   have H := HA.out
   clear HA
   simp only [decimal_cut.l0] at H
   by_cases c7 : x4_1 > 0
   ·rw [if_pos c7] at H
    have c7b0 : decide (0 < x4_1) = true := decide_eq_true c7
    clear c7
    obtain ⟨ji8, hji8⟩ : ∃ j_ : Int, (mx 0 (wrap64 (x4_1 - 9))) = j_ := ⟨_, rfl⟩
    replace H : (if 0 ≤ (ji8) then (if (ji8) ≤ x4_1 then (if x4_1 ≤ (a0.size : Int) then (if (a0.extract ((ji8) : Int).toNat (x4_1 : Int).toNat).size ≤ 9223372036854775807 then ((some (bytesOf (a0.extract ((ji8) : Int).toNat (x4_1 : Int).toNat) : List Int)).bind fun y146 => (decimal_cut.l1 k1 a0 x3_1 x4_1 0 y146 (y146.length : Int) 0)) else (none)) else (none)) else (none)) else (none)) = some r := by first | (rw [hji8] at H; exact H) | (simp only [hji8] at H ⊢; exact H)
    have hji8_ : (if 0 < (wrap64 (x4_1 - 9)) then (wrap64 (x4_1 - 9)) else 0) = ji8 := hji8
    by_cases c9 : 0 ≤ (ji8)
    case neg => rw [if_neg c9] at H; exact absurd H (by simp)
    rw [if_pos c9] at H
    have c9b0 := eq_true c9
    have c9b1 : decide (0 ≤ (ji8)) = true := decide_eq_true c9
    clear c9
    by_cases c10 : (ji8) ≤ x4_1
    case neg => rw [if_neg c10] at H; exact absurd H (by simp)
    rw [if_pos c10] at H
    have c10b0 := eq_true c10
    have c10b1 : decide ((ji8) ≤ x4_1) = true := decide_eq_true c10
    clear c10
    by_cases c11 : x4_1 ≤ (a0.size : Int)
    case neg => rw [if_neg c11] at H; exact absurd H (by simp)
    rw [if_pos c11] at H
    have c11b0 := eq_true c11
    have c11b1 : decide (x4_1 ≤ (a0.size : Int)) = true := decide_eq_true c11
    clear c11
    by_cases c12 : (a0.extract ((ji8) : Int).toNat (x4_1 : Int).toNat).size ≤ 9223372036854775807
    case neg => rw [if_neg c12] at H; exact absurd H (by simp)
    rw [if_pos c12] at H
    have c12b0 := eq_true c12
    have c12b1 : decide ((a0.extract ((ji8) : Int).toNat (x4_1 : Int).toNat).size ≤ 9223372036854775807) = true := decide_eq_true c12
    try have c12b2 : (9223372036854775807 < (a0.extract ((ji8) : Int).toNat (x4_1 : Int).toNat).size) = False := eq_false (Nat.not_lt.2 c12)
    clear c12
    obtain ⟨y146, hy146⟩ : ∃ y_ : List Int, y_ = (bytesOf (a0.extract ((ji8) : Int).toNat (x4_1 : Int).toNat)) := ⟨_, rfl⟩
    replace H : (decimal_cut.l1 k1 a0 x3_1 x4_1 0 y146 (y146.length : Int) 0) = some r := by first | (rw [hy146]; with_reducible exact H) | (have H2_ := (Option.bind_some _ _).symm.trans H; rw [hy146]; with_reducible exact H2_) | (have H2_ := (Option.bind_some _ _).symm.trans H; with_reducible exact H2_) | with_reducible exact H | (rw [hy146]; exact H) | exact H
    have Ny146 := Aside0.mk hy146
    clear hy146
    have H' := Aside0.mk H
    clear H
    go_wp2_with (first | ((with_reducible refine gate_dst (N := 25) rfl ?_); refine Kd.V_bytes _ 5 rfl (N := 25) rfl 36 191 _ rfl (a0.extract ((ji8) : Int).toNat (x4_1 : Int).toNat) rfl Tryz.underlying36 Tryz.underlying191 Tryz.underlying5 (ok := fun k_ => wr.heap.size ≤ k_) (Nat.le_refl _) (of_decide_eq_true (by assumption)) (Below.refl _ _) (Nat.le_refl _) ?_; intro v147 w13 ho14 hb hg_ hnew_; clear hg_ hnew_; (first | rw [← Ny146.out] at ho14 | (simp only [Int.reduceToNat] at ho14; rw [← Ny146.out] at ho14)); have n0_ := Aside0.mk (Kd.R_below (by apply_rules [HO_3.out, Kd.R_alloc, Kd.R_drewN, Kd.R_drew]) hb); have n1_ := Aside0.mk (Kd.V_lower (Kd.V_mono (ok' := fun k_ => some k_ ≠ (u3 : Value).ownBlock) ho14 (fun k_ hk_ => (Kd.fresh' (Kd.R_lt (by apply_rules [HO_3.out, Kd.R_alloc, Kd.R_drewN, Kd.R_drew])) k_ hk_))) (below_size (by apply_rules [HB.out, below_alloc, pw_below_drewN, below_drew1]))); have n2_ := Aside0.mk (below_step (by apply_rules [HB.out, below_alloc, pw_below_drewN, below_drew1]) hb); clear HO_3; clear HB; have HO_3 := n0_; have HO148 := n1_; have HB := n2_; clear n0_ n1_ n2_; clear hb ho14; obtain ⟨Ao15, co15, eo15⟩ := Kd.V_slice HO148.out; subst eo15))
    go_loopg [5, 27] k1 (fun kq v5 v27 w' => ∃ (x5_2 : Int) (x27_2 : Int), v5 = .int .u64 x5_2 ∧ v27 = .int .i64 x27_2 ∧ Aside0 (decimal_cut.l1 kq a0 x3_1 x4_1 x5_2 y146 (y146.length : Int) x27_2 = some r) ∧ Aside0 (kq ≤ k1) ∧ Aside0 (Kd.R (Kd.int .u64) 139 w' w.heap.size (fun _ => True) u3 x3_1) ∧ Aside0 (Kd.V (Kd.int .u8) 5 w' w.heap.size (fun k_ => some k_ ≠ (u3 : Value).ownBlock) (.slice Ao15 y146.length co15) y146) ∧ Aside0 (Below w.heap.size w w'))
    case atStart => exact ⟨(0), (0), (by first | rfl | (simp; done) | (simp [*]; done)), (by first | rfl | (simp; done) | (simp [*]; done)), H', ⟨Nat.le_refl _⟩, ⟨by apply_rules [HO_3.out, Kd.R_alloc, Kd.R_drewN, Kd.R_drew]⟩, ⟨by apply_rules [HO148.out, Kd.V_alloc, Kd.V_drewN, Kd.V_drew]⟩, ⟨by apply_rules [HB.out, below_alloc, pw_below_drewN, below_drew1]⟩⟩
    case round =>
     clear H'
     obtain ⟨x5_2, x27_2, rfl, rfl, HA, HK2, HO_3, HO_25, HB⟩ := hrel
     cases gk with
     | zero => exact absurd HA.out (by simp [decimal_cut.l1])
     | succ k2 =>
      have H := HA.out
      clear HA
      simp only [decimal_cut.l1] at H
      by_cases c16 : x27_2 < (y146.length : Int)
      ·rw [if_pos c16] at H
       have c16b0 : decide (x27_2 < (y146.length : Int)) = true := decide_eq_true c16
       clear c16
       by_cases c17 : 0 ≤ x27_2
       case neg => rw [if_neg c17] at H; exact absurd H (by simp)
       rw [if_pos c17] at H
       have c17b0 : decide (0 ≤ x27_2) = true := decide_eq_true c17
       clear c17
       by_cases c18 : x27_2 < (y146.length : Int)
       case neg => rw [if_neg c18] at H; exact absurd H (by simp)
       rw [if_pos c18] at H
       have c18b0 : decide (x27_2 < (y146.length : Int)) = true := decide_eq_true c18
       clear c18
       have H' := Aside0.mk H
       clear H
       have p149 : 0 ≤ (x27_2 : Int) := of_decide_eq_true (by assumption)
       have q149 : x27_2 < (y146.length : Int) := of_decide_eq_true (by assumption)
       obtain ⟨ad149, e149, hx149_0⟩ := Kd.at_int (Kd.V_reads' HO_25.out).2.2 x27_2 p149 q149
       cases e149
       replace p149 := eq_true p149
       replace q149 := eq_true q149
       go_wp2
       go_roundg k2
       case measure => have := HK1.out; have := HK2.out; omega
       case rel => exact ⟨(IntKind.u64.wrap ((IntKind.u64.wrap (10 * x5_2)) + (((rd y146 x27_2) - 48) % 256))), (wrap64 (x27_2 + 1)), (by first | rfl | (simp; done) | (simp [*]; done)), (by first | rfl | (simp; done) | (simp [*]; done)), H', ⟨by have := HK1.out; have := HK2.out; omega⟩, ⟨by apply_rules [HO_3.out, Kd.R_alloc, Kd.R_drewN, Kd.R_drew]⟩, ⟨by apply_rules [HO_25.out, Kd.V_alloc, Kd.V_drewN, Kd.V_drew]⟩, ⟨by apply_rules [HB.out, below_alloc, pw_below_drewN, below_drew1]⟩⟩
      ·rw [if_neg c16] at H
       have c16b0 : decide (x27_2 < (y146.length : Int)) = false := decide_eq_false c16
       clear c16
       by_cases c19 : x3_1.length < 17592186044416
       case neg => rw [if_neg c19] at H; exact absurd H (by simp)
       rw [if_pos c19] at H
       have LMc19 := Aside0.mk c19
       clear c19
       obtain ⟨y150, hy150⟩ : ∃ y_ : List Int, y_ = (x3_1 ++ [x5_2]) := ⟨_, rfl⟩
       replace H : (decimal_cut.l0 k2 a0 y150 (wrap64 (x4_1 - 9))) = some r := by first | (rw [hy150]; with_reducible exact H) | (have H2_ := (Option.bind_some _ _).symm.trans H; rw [hy150]; with_reducible exact H2_) | (have H2_ := (Option.bind_some _ _).symm.trans H; with_reducible exact H2_) | with_reducible exact H | (rw [hy150]; exact H) | exact H
       have Ny150 := Aside0.mk hy150
       clear hy150
       have H' := Aside0.mk H
       clear H
       go_wp2_with (first | ((with_reducible refine gate_builtin (b := .append) (xs := #[.tmp 38, .tmp 40]) rfl ?_); at_builtin; refine Kd.R_append (Kd.int .u64) (w0 := w) w.heap.size rfl (.tmp 38) (.tmp 40) 141 139 (.int .u64 0) 8 rfl Tryz.underlying141 info139 rfl (by decide) (by omega) u3 x3_1 x5_2 [.int .u64 x5_2] (fun _ => True) (fun _ => False) rfl rfl ?aP (fun _ hk => hk.elim) ?aF ?aO ?aB ?aS ?aL ?_; (case aP => exact rfl); (case aB => exact (by apply_rules [HB.out, below_alloc, pw_below_drewN, below_drew1])); (case aF => exact (fun _ _ => trivial)); (case aO => exact (by apply_rules [HO_3.out, Kd.R_alloc, Kd.R_drewN, Kd.R_drew])); (case aS => exact (below_size (by apply_rules [HB.out, below_alloc, pw_below_drewN, below_drew1]))); (case aL => have := LMc19.out; omega); intro v151 w20 ho hb hg hat; rw [← Ny150.out] at ho; replace HO_25 := Aside0.mk (Kd.V_afterv (ok := (fun _ => True)) (by (with_reducible repeat (first | apply Kd.V_alloc | apply Kd.V_drewN | apply Kd.V_drew)); exact Kd.V_mono HO_25.out (fun _ hk => ⟨trivial, hk⟩)) hg hat); replace HB := Aside0.mk (hb); have HO152 := Aside0.mk (ho); clear HO_3; clear ho hb hg hat))
       go_roundg k2
       case measure => have := HK1.out; have := HK2.out; omega
       case rel => exact ⟨(y150), (wrap64 (x4_1 - 9)), (by first | rfl | (simp; done) | (simp [*]; done)), H', ⟨by have := HK1.out; have := HK2.out; omega⟩, ⟨by apply_rules [HO152.out, Kd.R_alloc, Kd.R_drewN, Kd.R_drew]⟩, ⟨by apply_rules [HB.out, below_alloc, pw_below_drewN, below_drew1]⟩⟩
   ·rw [if_neg c7] at H
    have c7b0 : decide (0 < x4_1) = false := decide_eq_false c7
    clear c7
    replace H := Option.bind_eq_some_iff.mp H
    obtain ⟨t143, A210, H⟩ := H
    try dsimp only at H
    have A21 := Aside0.mk A210
    clear A210
    obtain rfl := Option.some.inj H
    obtain ⟨Ao22, co22, eo22⟩ := Kd.R_slice HO_3.out
    subst eo22
    go_wp2_with (first | ((with_reducible refine gate_callee (f := 173) rfl ?_); refine goesK (some 43) Tryz.func173 [.slice Ao22 x3_1.length co22] rfl rfl ?_; (with_reducible refine (decimal_pieces_trim.calls k1 (fun k_ => some k_ = (.slice Ao22 x3_1.length co22 : Value).ownBlock) (.slice Ao22 x3_1.length co22) x3_1 t143 w _ ?side1 ?side2 A21.out).mono ?_); (case side1 => apply_rules [HB.out, below_alloc, pw_below_drewN, below_drew1]); (case side2 => exact Kd.R_tight rfl HO_3.out); rintro e w23 ⟨v144, rfl, ho0, hb, hkp⟩; refine ⟨_, rfl, ?_⟩; have HO145 := Aside0.mk (Kd.R_mono (ok' := fun k_ => True) ho0 (fun k_ hk_ => trivial)); replace HB := Aside0.mk (hb); clear HO_3; (try clear hb); (try clear hkp); (try clear ho0)))
    go_ret
    exact ⟨_, by first | rfl | (simp [errW_none, errW_some] <;> rfl) | (simp only [← hji2]; first | rfl | (simp [errW_none, errW_some] <;> rfl)) | (simp [*, errW_none, errW_some] <;> rfl), by (with_reducible repeat (first | apply Kd.R_alloc | apply Kd.R_drewN | apply Kd.R_drew)); exact HO145.out, by apply_rules [HB.out, below_alloc, pw_below_drewN, below_drew1]⟩
end Go.Proofs.YtccebdpjdpjgnaaGreatDoor.P
end
section
namespace Go.Proofs.YtccebdpjdpjgnaaGreatDoor.P
open Go.RowKit Go.Proofs.YtccebdpjdpjgnaaGreatDoorW.PrintWords Go.Proofs.YtccebdpjdpjgnaaGreatDoorW.PrintLast Go.Proofs.YtccebdpjdpjgnaaGreatDoorW.PrintMore
attribute [local go_sem] max2_int min2_int max_two min_two max_three min_three max_four min_four
def slices_Reverse_byte_byte.l0 : Nat → List Int → Int → Int → Option (List Int)
 | 0, _, _, _ => none
 | k + 1, x0, x2, x3 => if x2 < x3 then (if 0 ≤ x3 then (if x3 < (x0.length : Int) then (if 0 ≤ x2 then (if x2 < (x0.length : Int) then (slices_Reverse_byte_byte.l0 k ((x0.set (x2 : Int).toNat (rd x0 x3)).set (x3 : Int).toNat (rd x0 x2)) (wrap64 (x2 + 1)) (wrap64 (x3 - 1))) else (none)) else (none)) else (none)) else (none)) else (some x0)
def slices_Reverse_byte_byte.f (k : Nat) (l0 : List Int) : Option (List Int) := slices_Reverse_byte_byte.l0 k l0 0 (wrap64 ((l0.length : Int) - 1))
def slices_Reverse_byte_byte.T3 : Bool × List (List Nat × List Nat) := (true, [([], []), ([], []), ([], []), ([], []), ([], []), ([], []), ([4, 5], [4, 5]), ([6], [6]), ([], []), ([], []), ([8, 9], [8, 9]), ([10], [10]), ([0, 1, 0, 1, 4, 5, 6, 7, 11], [0, 1]), ([12, 7, 0, 1, 4, 5, 6, 7, 11], [7, 12]), ([2, 3, 0, 1, 2, 3, 4, 5, 6, 7, 8, 9, 10, 11, 12, 13], [2, 3]), ([14, 11, 13, 0, 1, 2, 3, 4, 5, 6, 7, 8, 9, 10, 11, 12, 13], [11, 14])])
def slices_Reverse_byte_byte.B3 : List Nat := [0, 0, 0, 0, 0, 0, 48, 112, 0, 0, 768, 1792, 4083, 8179, 16383, 32767]
theorem slices_Reverse_byte_byte.tab3 : rtab .any (opsOf Tryz.f174 3) = slices_Reverse_byte_byte.T3 := by kernel_rfl
theorem slices_Reverse_byte_byte.bits3 : waitsOk slices_Reverse_byte_byte.T3.2 slices_Reverse_byte_byte.B3 = true := by kernel_rfl
set_option maxHeartbeats 8000000 in
set_option maxRecDepth 100000 in
theorem slices_Reverse_byte_byte.calls (k : Nat) (P0_ : Nat → Prop) (u9000_ : Value) (l0 : List Int) (r : List Int) (w0 w : World) (hB : Below w0.heap.size w0 w) (ho0 : Kd.R (Kd.int .u8) 5 w w0.heap.size P0_ u9000_ l0) (h : slices_Reverse_byte_byte.f k l0 = some r) :
  Calls Tryz.prog 174 #[u9000_] w fun e w' => e = .returned (.tuple #[]) ∧ Kd.R (Kd.int .u8) 5 w' w0.heap.size (fun k_ => (P0_ k_ ∨ w.heap.size ≤ k_)) u9000_ r ∧ Below w0.heap.size w0 w' ∧ Kept w w' (fun k_ => P0_ k_) := by
 have HO0 := Aside0.mk (show Kd.R (Kd.int .u8) 5 w w0.heap.size (fun k_ => (P0_ k_ ∨ w.heap.size ≤ k_)) u9000_ l0 from Kd.R_mono ho0 (fun k_ hk => (.inl hk)))
 have HK := Aside0.mk (Kept.refl w (fun k_ => P0_ k_))
 have HW0 := Aside0.mk hB.size
 have HB := Aside0.mk hB
 clear hB
 have H : (slices_Reverse_byte_byte.l0 k l0 0 (wrap64 ((l0.length : Int) - 1))) = some r := h
 clear h
 have H' := Aside0.mk H
 clear H
 obtain ⟨Ao2, co2, eo2⟩ := Kd.R_slice HO0.out
 subst eo2
 go_enter Tryz.func174, Tryz.ntmps174
 go_wp2
 go_loopg [2, 3] k (fun kq v2 v3 w' => ∃ (x0_1 : List Int) (x2_1 : Int) (x3_1 : Int), v2 = .int .i64 x2_1 ∧ v3 = .int .i64 x3_1 ∧ Aside0 (slices_Reverse_byte_byte.l0 kq x0_1 x2_1 x3_1 = some r) ∧ Aside0 (kq ≤ k) ∧ Aside0 (Kd.R (Kd.int .u8) 5 w' w0.heap.size (fun k_ => (P0_ k_ ∨ w.heap.size ≤ k_)) (.slice Ao2 l0.length co2) x0_1) ∧ Aside0 (Kept w w' (fun k_ => P0_ k_)) ∧ Aside0 (Below w0.heap.size w0 w'))
 case atStart => exact ⟨(l0), (0), (wrap64 ((l0.length : Int) - 1)), (by first | rfl | (simp; done) | (simp [*]; done)), (by first | rfl | (simp; done) | (simp [*]; done)), H', ⟨Nat.le_refl _⟩, ⟨by apply_rules [HO0.out, Kd.R_alloc, Kd.R_drewN, Kd.R_drew]⟩, ⟨by repeat (first | (with_reducible first | exact HK.out | apply Kept.alloc | apply Kept.drewN | apply Kept.drew) | exact HK.out)⟩, ⟨by apply_rules [HB.out, below_alloc, pw_below_drewN, below_drew1]⟩⟩
 case round =>
  clear H'
  obtain ⟨x0_1, x2_1, x3_1, rfl, rfl, HA, HK1, HO_0, HK, HB⟩ := hrel
  have hl0_1 := (Kd.R_reads' HO_0.out).1
  rw [hl0_1] at HO_0
  (try simp only [hl0_1])
  cases gk with
  | zero => exact absurd HA.out (by simp [slices_Reverse_byte_byte.l0])
  | succ k1 =>
   have H := HA.out
   clear HA
   simp only [slices_Reverse_byte_byte.l0] at H
   by_cases c3 : x2_1 < x3_1
   ·rw [if_pos c3] at H
    have c3b0 : decide (x2_1 < x3_1) = true := decide_eq_true c3
    clear c3
    by_cases c4 : 0 ≤ x3_1
    case neg => rw [if_neg c4] at H; exact absurd H (by simp)
    rw [if_pos c4] at H
    have c4b0 : decide (0 ≤ x3_1) = true := decide_eq_true c4
    clear c4
    by_cases c5 : x3_1 < (x0_1.length : Int)
    case neg => rw [if_neg c5] at H; exact absurd H (by simp)
    rw [if_pos c5] at H
    have c5b0 : decide (x3_1 < (x0_1.length : Int)) = true := decide_eq_true c5
    clear c5
    by_cases c6 : 0 ≤ x2_1
    case neg => rw [if_neg c6] at H; exact absurd H (by simp)
    rw [if_pos c6] at H
    have c6b0 : decide (0 ≤ x2_1) = true := decide_eq_true c6
    clear c6
    by_cases c7 : x2_1 < (x0_1.length : Int)
    case neg => rw [if_neg c7] at H; exact absurd H (by simp)
    rw [if_pos c7] at H
    have c7b0 : decide (x2_1 < (x0_1.length : Int)) = true := decide_eq_true c7
    clear c7
    obtain ⟨y155, hy155⟩ : ∃ y_ : List Int, y_ = (x0_1.set (x2_1 : Int).toNat (rd x0_1 x3_1)) := ⟨_, rfl⟩
    replace H : (slices_Reverse_byte_byte.l0 k1 (y155.set (x3_1 : Int).toNat (rd x0_1 x2_1)) (wrap64 (x2_1 + 1)) (wrap64 (x3_1 - 1))) = some r := by first | (rw [hy155]; with_reducible exact H) | (have H2_ := (Option.bind_some _ _).symm.trans H; rw [hy155]; with_reducible exact H2_) | (have H2_ := (Option.bind_some _ _).symm.trans H; with_reducible exact H2_) | with_reducible exact H | (rw [hy155]; exact H) | exact H
    have Ny155 := Aside0.mk hy155
    clear hy155
    obtain ⟨y156, hy156⟩ : ∃ y_ : List Int, y_ = (y155.set (x3_1 : Int).toNat (rd x0_1 x2_1)) := ⟨_, rfl⟩
    replace H : (slices_Reverse_byte_byte.l0 k1 y156 (wrap64 (x2_1 + 1)) (wrap64 (x3_1 - 1))) = some r := by first | (rw [hy156]; with_reducible exact H) | (have H2_ := (Option.bind_some _ _).symm.trans H; rw [hy156]; with_reducible exact H2_) | (have H2_ := (Option.bind_some _ _).symm.trans H; with_reducible exact H2_) | with_reducible exact H | (rw [hy156]; exact H) | exact H
    have Ny156 := Aside0.mk hy156
    clear hy156
    have H' := Aside0.mk H
    clear H
    try go_wp2
    have n0_ := Aside0.mk (Kd.R_drew HO_0.out)
    have n1_ := Aside0.mk (Kept.drew HK.out)
    have n2_ := Aside0.mk (below_drew1 HB.out)
    clear HO_0
    clear HK
    clear HB
    have HO_0 := n0_
    have HK := n1_
    have HB := n2_
    clear n0_ n1_ n2_
    have p153 : 0 ≤ (x3_1 : Int) := of_decide_eq_true (by assumption)
    have q153 : x3_1 < (x0_1.length : Int) := of_decide_eq_true (by assumption)
    obtain ⟨ad153, e153, hx153_0⟩ := Kd.at_int (Kd.R_reads' HO_0.out).2.2 x3_1 p153 q153
    cases e153
    replace p153 := eq_true p153
    replace q153 := eq_true q153
    have p154 : 0 ≤ (x2_1 : Int) := of_decide_eq_true (by assumption)
    have q154 : x2_1 < (x0_1.length : Int) := of_decide_eq_true (by assumption)
    obtain ⟨ad154, e154, hx154_0⟩ := Kd.at_int (Kd.R_reads' HO_0.out).2.2 x2_1 p154 q154
    obtain rfl : ad153 = ad154 := (by injection e154)
    replace p154 := eq_true p154
    replace q154 := eq_true q154
    have p8 : 0 ≤ (x2_1 : Int) := of_decide_eq_true (by assumption)
    have q8 : (x2_1 : Int) < ((x0_1.length : Int) : Int) := of_decide_eq_true (by assumption)
    obtain ⟨go8, co8, eo8, gb8, gl8, cl8, HG8⟩ := Kd.R_form HO_0.out (by omega)
    (first | cases eo8 | (injection eo8 with ea_ en_ ec_; (first | subst ea_ | (injection ea_ with ea_; subst ea_)); subst ec_; clear en_))
    have GB8 := Aside0.mk gb8
    have GG8 := Aside0.mk HG8
    clear gb8 gl8 HG8
    have HMgo8 := Aside0.mk (show (P0_ go8 ∨ w.heap.size ≤ go8) from (HO_0.out.1 _ rfl))
    (first | simp only [add_plain] at hx153_0 | skip)
    (first | simp only [add_plain] at hx154_0 | skip)
    obtain ⟨hx8_0, hf8_0⟩ := Kd.R_celln 0 HO_0.out (x2_1 : Int) p8 q8
    replace p8 := eq_true p8
    replace q8 := eq_true q8
    have HP11 := Kd.R_putn HO_0.out (x2_1 : Int) (rd x0_1 x3_1)
    rw [← Ny155.out] at HP11
    have HQ11 := Aside0.mk HP11
    clear HP11
    have p9 : 0 ≤ (x3_1 : Int) := of_decide_eq_true (by assumption)
    have q9 : (x3_1 : Int) < ((x0_1.length : Int) : Int) := of_decide_eq_true (by assumption)
    obtain ⟨hx9_0, hf9_0⟩ := Kd.R_celln 0 HQ11.out (x3_1 : Int) p9 q9
    replace p9 := eq_true p9
    replace q9 := eq_true q9
    have HP12 := Kd.R_putn HQ11.out (x3_1 : Int) (rd x0_1 x2_1)
    rw [← Ny156.out] at HP12
    have HQ12 := Aside0.mk HP12
    clear HP12
    refine start_ (n := 16) (S := fun w' => w'.cell? ⟨go8, (x3_1).toNat, none⟩ = some (.int .u8 (rd x0_1 x3_1)) ∧ w'.cell? ⟨go8, (x2_1).toNat, none⟩ = some (.int .u8 (rd x0_1 x2_1))) (ds := [13, 15]) #[false, false, false, false, false, false, false, false, false, false, false, false, false, false, false, false] (by kernel_rfl) rfl rfl ⟨hx153_0, hx154_0⟩ (fun hHeld => ?_); refine with_tabW slices_Reverse_byte_byte.tab3 slices_Reverse_byte_byte.bits3 (fun HT_ HW_ => ?_)
    generalize wr.drew = w10 at HO_0 HK HB GG8 HQ11 HQ12 hf8_0 hf9_0 hx153_0 hx154_0 hx8_0 hx9_0 hHeld ⊢
    refine pure_ (i := 0) (N := some 14) (v := ?_) (a' := ?_) #[true, false, false, false, false, false, false, false, false, false, false, false, false, false, false, false] rfl rfl (any_of HT_.out (by kernel_rfl)) (fun _ _ _ h => h) (Or.inl ⟨by rfl, ?_⟩) ?_ ?_
    rotate_left
    ·intro w'
     go_simp
     with_reducible rfl
    rotate_left
    ·simp only [Act.put, List.setIfInBounds_toArray, List.set_cons_zero, List.set_cons_succ, i64_w, i32_w]
     rfl
    refine pure_ (i := 1) (N := some 15) (v := ?_) (a' := ?_) #[true, true, false, false, false, false, false, false, false, false, false, false, false, false, false, false] rfl rfl (any_of HT_.out (by kernel_rfl)) (fun _ _ _ h => h) (Or.inl ⟨by rfl, ?_⟩) ?_ ?_
    rotate_left
    ·intro w'
     go_simp
     with_reducible rfl
    rotate_left
    ·simp only [Act.put, List.setIfInBounds_toArray, List.set_cons_zero, List.set_cons_succ, i64_w, i32_w]
     rfl
    refine pure_ (i := 2) (N := some 16) (v := ?_) (a' := ?_) #[true, true, true, false, false, false, false, false, false, false, false, false, false, false, false, false] rfl rfl (any_of HT_.out (by kernel_rfl)) (fun _ _ _ h => h) (Or.inl ⟨by rfl, ?_⟩) ?_ ?_
    rotate_left
    ·intro w'
     go_simp
     with_reducible rfl
    rotate_left
    ·simp only [Act.put, List.setIfInBounds_toArray, List.set_cons_zero, List.set_cons_succ, i64_w, i32_w]
     rfl
    refine pure_ (i := 3) (N := some 17) (v := ?_) (a' := ?_) #[true, true, true, true, false, false, false, false, false, false, false, false, false, false, false, false] rfl rfl (any_of HT_.out (by kernel_rfl)) (fun _ _ _ h => h) (Or.inl ⟨by rfl, ?_⟩) ?_ ?_
    rotate_left
    ·intro w'
     go_simp
     with_reducible rfl
    rotate_left
    ·simp only [Act.put, List.setIfInBounds_toArray, List.set_cons_zero, List.set_cons_succ, i64_w, i32_w]
     rfl
    refine pure_ (i := 4) (N := some 18) (v := ?_) (a' := ?_) #[true, true, true, true, true, false, false, false, false, false, false, false, false, false, false, false] rfl rfl (any_of HT_.out (by kernel_rfl)) (fun _ _ _ h => h) (Or.inl ⟨by rfl, ?_⟩) ?_ ?_
    rotate_left
    ·intro w'
     go_simp
     with_reducible rfl
    rotate_left
    ·simp only [Act.put, List.setIfInBounds_toArray, List.set_cons_zero, List.set_cons_succ, i64_w, i32_w]
     rfl
    refine pure_ (i := 5) (N := some 19) (v := ?_) (a' := ?_) #[true, true, true, true, true, true, false, false, false, false, false, false, false, false, false, false] rfl rfl (any_of HT_.out (by kernel_rfl)) (fun _ _ _ h => h) (Or.inl ⟨by rfl, ?_⟩) ?_ ?_
    rotate_left
    ·intro w'
     go_simp
     with_reducible rfl
    rotate_left
    ·simp only [Act.put, List.setIfInBounds_toArray, List.set_cons_zero, List.set_cons_succ, i64_w, i32_w]
     rfl
    refine pure_ (i := 6) (N := some 20) (v := ?_) (a' := ?_) #[true, true, true, true, true, true, true, false, false, false, false, false, false, false, false, false] rfl rfl (any_of HT_.out (by kernel_rfl)) (fun _ _ _ h => h) (Or.inl ⟨by rfl, ?_⟩) ?_ ?_
    rotate_left
    ·intro w'
     go_simp
     with_reducible rfl
    rotate_left
    ·simp only [Act.put, List.setIfInBounds_toArray, List.set_cons_zero, List.set_cons_succ, i64_w, i32_w]
     rfl
    refine pure_ (i := 8) (N := some 22) (v := ?_) (a' := ?_) #[true, true, true, true, true, true, true, false, true, false, false, false, false, false, false, false] rfl rfl (any_of HT_.out (by kernel_rfl)) (fun _ _ _ h => h) (Or.inl ⟨by rfl, ?_⟩) ?_ ?_
    rotate_left
    ·intro w'
     go_simp
     with_reducible rfl
    rotate_left
    ·simp only [Act.put, List.setIfInBounds_toArray, List.set_cons_zero, List.set_cons_succ, i64_w, i32_w]
     rfl
    refine pure_ (i := 9) (N := some 23) (v := ?_) (a' := ?_) #[true, true, true, true, true, true, true, false, true, true, false, false, false, false, false, false] rfl rfl (any_of HT_.out (by kernel_rfl)) (fun _ _ _ h => h) (Or.inl ⟨by rfl, ?_⟩) ?_ ?_
    rotate_left
    ·intro w'
     go_simp
     with_reducible rfl
    rotate_left
    ·simp only [Act.put, List.setIfInBounds_toArray, List.set_cons_zero, List.set_cons_succ, i64_w, i32_w]
     rfl
    refine pure_ (i := 10) (N := some 24) (v := ?_) (a' := ?_) #[true, true, true, true, true, true, true, false, true, true, true, false, false, false, false, false] rfl rfl (any_of HT_.out (by kernel_rfl)) (fun _ _ _ h => h) (Or.inl ⟨by rfl, ?_⟩) ?_ ?_
    rotate_left
    ·intro w'
     go_simp
     with_reducible rfl
    rotate_left
    ·simp only [Act.put, List.setIfInBounds_toArray, List.set_cons_zero, List.set_cons_succ, i64_w, i32_w]
     rfl
    refine take_ (i := 7) (N := some 21) (v := ?_) (a' := ?_) #[true, true, true, true, true, true, true, true, true, true, true, false, false, false, false, false] rfl rfl (take_ofW HT_.out HW_.out (by kernel_rfl)) (fun _ _ _ h => h) (Or.inl ⟨by rfl, ?_⟩) hHeld ?_ ?_
    rotate_left
    ·rintro w' ⟨s0, s1⟩
     go_simp
     with_reducible rfl
    rotate_left
    ·simp only [Act.put, List.setIfInBounds_toArray, List.set_cons_zero, List.set_cons_succ, i64_w, i32_w]
     rfl
    refine take_ (i := 11) (N := some 25) (v := ?_) (a' := ?_) #[true, true, true, true, true, true, true, true, true, true, true, true, false, false, false, false] rfl rfl (take_ofW HT_.out HW_.out (by kernel_rfl)) (fun _ _ _ h => h) (Or.inl ⟨by rfl, ?_⟩) hHeld ?_ ?_
    rotate_left
    ·rintro w' ⟨s0, s1⟩
     go_simp
     with_reducible rfl
    rotate_left
    ·simp only [Act.put, List.setIfInBounds_toArray, List.set_cons_zero, List.set_cons_succ, i64_w, i32_w]
     rfl
    refine pure_ (i := 12) (N := some 26) (v := ?_) (a' := ?_) #[true, true, true, true, true, true, true, true, true, true, true, true, true, false, false, false] rfl rfl (any_of HT_.out (by kernel_rfl)) (fun _ _ _ h => h) (Or.inl ⟨by rfl, ?_⟩) ?_ ?_
    rotate_left
    ·intro w'
     go_simp
     with_reducible rfl
    rotate_left
    ·simp only [Act.put, List.setIfInBounds_toArray, List.set_cons_zero, List.set_cons_succ, i64_w, i32_w]
     rfl
    refine last_ (i := 13) (N := none) #[true, true, true, true, true, true, true, true, true, true, true, true, true, true, false, false] rfl rfl (one_of HT_.out (by kernel_rfl)) (by decide) (fun K hK => ?_)
    refine skip_ (w1 := ?_) (by rfl) rfl ?_ ?_
    rotate_left
    ·go_simp
     rfl
    refine hK.out _ _ ?_
    clear hK K
    refine pure_ (i := 14) (N := some 27) (v := ?_) (a' := ?_) #[true, true, true, true, true, true, true, true, true, true, true, true, true, true, true, false] rfl rfl (any_of HT_.out (by kernel_rfl)) (fun _ _ _ h => h) (Or.inl ⟨by rfl, ?_⟩) ?_ ?_
    rotate_left
    ·intro w'
     go_simp
     with_reducible rfl
    rotate_left
    ·simp only [Act.put, List.setIfInBounds_toArray, List.set_cons_zero, List.set_cons_succ, i64_w, i32_w]
     rfl
    refine last_ (i := 15) (N := none) #[true, true, true, true, true, true, true, true, true, true, true, true, true, true, true, true] rfl rfl (one_of HT_.out (by kernel_rfl)) (by decide) (fun K hK => ?_)
    refine skip_ (w1 := ?_) (by rfl) rfl ?_ ?_
    rotate_left
    ·go_simp
     rfl
    refine hK.out _ _ ?_
    clear hK K
    refine done_ (done_of HT_.out (by kernel_rfl)) ?_
    try go_wp2
    (try simp only [← hl0_1])
    go_roundg k1
    case measure => have := HK1.out; omega
    case rel => exact ⟨(y156), (wrap64 (x2_1 + 1)), (wrap64 (x3_1 - 1)), (by first | rfl | (simp; done) | (simp [*]; done)), (by first | rfl | (simp; done) | (simp [*]; done)), H', ⟨by have := HK1.out; omega⟩, ⟨by (try simp only [hl0_1]); apply_rules [HQ12.out, Kd.R_alloc, Kd.R_drewN, Kd.R_drew]⟩, ⟨by repeat (first | (with_reducible first | exact HK.out | apply Kept.alloc | apply Kept.drewN | apply Kept.drew | refine Kept.setCell ?_ HMgo8.out _ | refine Kept.setCell ?_ HMgo8.out _) | exact HK.out)⟩, ⟨by apply_rules [HB.out, below_alloc, pw_below_drewN, below_drew1, below_set, GB8.out, GB8.out]⟩⟩
   ·rw [if_neg c3] at H
    have c3b0 : decide (x2_1 < x3_1) = false := decide_eq_false c3
    clear c3
    obtain rfl := Option.some.inj H
    go_wp2
    first | go_end0 | ((try simp only [Exit.inBlock, Exit.then]); refine bodyPost_ret (results_none rfl _ _ _) rfl ?_)
    exact ⟨by first | rfl | simp [*], (by first | exact (by apply_rules [HO_0.out, Kd.R_alloc, Kd.R_drewN, Kd.R_drew]) | (simp only [hl0_1]; exact (by apply_rules [HO_0.out, Kd.R_alloc, Kd.R_drewN, Kd.R_drew]))), by apply_rules [HB.out, below_alloc, pw_below_drewN, below_drew1], by repeat (first | (with_reducible first | exact HK.out | apply Kept.alloc | apply Kept.drewN | apply Kept.drew) | exact HK.out)⟩
end Go.Proofs.YtccebdpjdpjgnaaGreatDoor.P
end
