/-
words of the walks
-/
import Derived.Test.YtccebdpjdpjgnaaGreatDoorMP08
set_option linter.unusedVariables false
set_option linter.unusedSimpArgs false
namespace Go.Proofs.YtccebdpjdpjgnaaGreatDoor.P
open Go.RowKit Go.Proofs.YtccebdpjdpjgnaaGreatDoorW.PrintWords Go.Proofs.YtccebdpjdpjgnaaGreatDoorW.PrintLast Go.Proofs.YtccebdpjdpjgnaaGreatDoorW.PrintMore
attribute [local go_sem] max2_int min2_int max_two min_two max_three min_three max_four min_four
set_option linter.unusedVariables false
set_option linter.unusedSimpArgs false
mutual
def decimal_pieces_text.l0 : Nat → List Int → List Int → List Int → Int → Int → Option (ByteArray)
 | 0, _, _, _, _, _ => none
 | k + 1, x0, x3, x14, x15, x16 => if x16 < x15 then (if 0 ≤ x16 then (if x16 < (x14.length : Int) then (decimal_pieces_text.l1 k x0 x3 x16 (rd x14 x16) 0 x14 x15 x16) else (none)) else (none)) else ((slices_Reverse_byte_byte.f k x3).bind fun t160 => (some (strOfNums t160)))
def decimal_pieces_text.l1 : Nat → List Int → List Int → Int → Int → Int → List Int → Int → Int → Option (ByteArray)
 | 0, _, _, _, _, _, _, _, _ => none
 | k + 1, x0, x3, x4, x5, x6, x14, x15, x16 => if x6 < 9 then (if (wrap64 (x4 + 1)) < (x0.length : Int) then (if x3.length < 140737488355328 then (decimal_pieces_text.l1 k x0 (x3 ++ [(IntKind.u64.wrap (48 + (Int.tmod x5 10))) % 256]) x4 (IntKind.u64.wrap (Int.tdiv x5 10)) (wrap64 (x6 + 1)) x14 x15 x16) else (none)) else (if x5 > 0 then (if x3.length < 140737488355328 then (decimal_pieces_text.l1 k x0 (x3 ++ [(IntKind.u64.wrap (48 + (Int.tmod x5 10))) % 256]) x4 (IntKind.u64.wrap (Int.tdiv x5 10)) (wrap64 (x6 + 1)) x14 x15 x16) else (none)) else (decimal_pieces_text.l0 k x0 x3 x14 x15 (wrap64 (x16 + 1))))) else (decimal_pieces_text.l0 k x0 x3 x14 x15 (wrap64 (x16 + 1)))
end
def decimal_pieces_text.f (k : Nat) (l0 : List Int) : Option (ByteArray) := if (l0.length : Int) = 0 then (some (⟨#[48]⟩ : ByteArray)) else (if 0 ≤ (wrap64 (9 * (l0.length : Int))) then (if (wrap64 (9 * (l0.length : Int)) : Int).toNat ≤ 281474976710656 then (decimal_pieces_text.l0 k l0 (([] : List Int)) l0 (l0.length : Int) 0) else (none)) else (none))
set_option maxHeartbeats 8000000 in
set_option maxRecDepth 100000 in
theorem decimal_pieces_text.calls (k : Nat) (A0 : Option Addr) (c0 : Nat) (l0 : List Int) (r : ByteArray) (w : World) (hr0 : Kd.C (Kd.int .u64) w A0 l0.length l0) (hc0 : l0.length ≤ c0) (h : decimal_pieces_text.f k l0 = some r) :
  Calls Tryz.prog 110 #[.slice A0 l0.length c0] w fun e w' => e = .returned (.string r) ∧ Below w.heap.size w w' := by
 have HR0 := Aside0.mk hr0
 have HC0 := Aside0.mk hc0
 clear hr0 hc0
 have HB := Aside0.mk (Below.refl w.heap.size w)
 have H : (if (l0.length : Int) = 0 then (some (⟨#[48]⟩ : ByteArray)) else (if 0 ≤ (wrap64 (9 * (l0.length : Int))) then (if (wrap64 (9 * (l0.length : Int)) : Int).toNat ≤ 281474976710656 then (decimal_pieces_text.l0 k l0 (([] : List Int)) l0 (l0.length : Int) 0) else (none)) else (none))) = some r := h
 clear h
 by_cases c2 : (l0.length : Int) = 0
 ·rw [if_pos c2] at H
  have c2b0 : ((l0.length : Int) == 0) = true := beq_iff_eq.mpr c2
  have c2b1 : ((l0.length : Int) != 0) = false := bne_eq_false_iff_eq.mpr c2
  clear c2
  obtain rfl := Option.some.inj H
  go_enter Tryz.func110, Tryz.ntmps110
  go_wp2
  go_ret
  exact ⟨by first | rfl | simp [*], by apply_rules [HB.out, below_alloc, pw_below_drewN, below_drew1]⟩
 ·rw [if_neg c2] at H
  have c2b0 : ((l0.length : Int) == 0) = false := beq_eq_false_iff_ne.mpr c2
  have c2b1 : ((l0.length : Int) != 0) = true := bne_iff_ne.mpr c2
  have c2b2 : ¬ (l0 = []) := fun h_ => c2 (by rw [h_]; rfl)
  obtain ⟨ji3, hji3⟩ : ∃ j_ : Int, (wrap64 (9 * (l0.length : Int))) = j_ := ⟨_, rfl⟩
  replace H : (if 0 ≤ (ji3) then (if (ji3 : Int).toNat ≤ 281474976710656 then (decimal_pieces_text.l0 k l0 (([] : List Int)) l0 (l0.length : Int) 0) else (none)) else (none)) = some r := by first | (rw [hji3] at H; exact H) | (simp only [hji3] at H ⊢; exact H)
  have hji3w : (IntKind.i64.wrap (9 * (l0.length : Int))) = ji3 := (i64_w _).trans hji3
  by_cases c4 : 0 ≤ (ji3)
  case neg => rw [if_neg c4] at H; exact absurd H (by simp)
  rw [if_pos c4] at H
  have c4b0 := eq_true c4
  have c4b1 : decide (0 ≤ (ji3)) = true := decide_eq_true c4
  clear c4
  by_cases c5 : (ji3 : Int).toNat ≤ 281474976710656
  case neg => rw [if_neg c5] at H; exact absurd H (by simp)
  rw [if_pos c5] at H
  have c5b0 := eq_true c5
  have c5b1 : decide ((ji3 : Int).toNat ≤ 281474976710656) = true := decide_eq_true c5
  clear c5
  obtain ⟨y157, hy157⟩ : ∃ y_ : List Int, y_ = (([] : List Int)) := ⟨_, rfl⟩
  replace H : (decimal_pieces_text.l0 k l0 y157 l0 (l0.length : Int) 0) = some r := by first | (rw [hy157]; with_reducible exact H) | (have H2_ := (Option.bind_some _ _).symm.trans H; rw [hy157]; with_reducible exact H2_) | (have H2_ := (Option.bind_some _ _).symm.trans H; with_reducible exact H2_) | with_reducible exact H | (rw [hy157]; exact H) | exact H
  have Ny157 := Aside0.mk hy157
  clear hy157
  have H' := Aside0.mk H
  clear H
  go_enter Tryz.func110, Tryz.ntmps110
  go_wp2_with (first | ((with_reducible refine gate_dst (N := 13) rfl ?_); (try (refine gate_guard (by rfl) ?_; dsimp only)); refine Kd.R_makecap (Kd.int .u8) _ 5 rfl (N := 13) rfl 191 _ _ rfl ji3 rfl rfl Tryz.underlying191 (.int .u8 0) 1 info5 rfl (by decide) (by omega) (ok := fun _ => True) trivial (of_decide_eq_true (by assumption)) (Nat.le_trans (Nat.mul_le_mul_right _ (of_decide_eq_true (by assumption) : ji3.toNat ≤ 281474976710656)) (by omega)) (Below.refl _ _) (Nat.le_refl _) ?_; intro v158 w6 ho7 hb hg_ hnew_; clear hg_ hnew_; (first | rw [← Ny157.out] at ho7 | (simp only [Int.reduceToNat] at ho7; rw [← Ny157.out] at ho7)); have HO159 := Aside0.mk (Kd.R_lower ho7 (below_size (by apply_rules [HB.out, below_alloc, pw_below_drewN, below_drew1]))); replace HB := Aside0.mk (below_step (by apply_rules [HB.out, below_alloc, pw_below_drewN, below_drew1]) hb); clear hb ho7))
  go_loopg [3, 16] k (fun kq v3 v16 w' => ∃ (x3_1 : List Int) (x16_1 : Int), v16 = .int .i64 x16_1 ∧ Aside0 (decimal_pieces_text.l0 kq l0 x3_1 l0 (l0.length : Int) x16_1 = some r) ∧ Aside0 (kq ≤ k) ∧ Aside0 (Kd.R (Kd.int .u8) 5 w' w.heap.size (fun _ => True) v3 x3_1) ∧ Aside0 (Below w.heap.size w w'))
  case atStart => exact ⟨(y157), (0), (by first | rfl | (simp; done) | (simp [*]; done)), H', ⟨Nat.le_refl _⟩, ⟨by apply_rules [HO159.out, Kd.R_alloc, Kd.R_drewN, Kd.R_drew]⟩, ⟨by apply_rules [HB.out, below_alloc, pw_below_drewN, below_drew1]⟩⟩
  case round =>
   clear H'
   obtain ⟨x3_1, x16_1, rfl, HA, HK1, HO_3, HB⟩ := hrel
   cases gk with
   | zero => exact absurd HA.out (by simp [decimal_pieces_text.l0])
   | succ k1 =>
    have H := HA.out
    clear HA
    simp only [decimal_pieces_text.l0] at H
    by_cases c8 : x16_1 < (l0.length : Int)
    ·rw [if_pos c8] at H
     have c8b0 : decide (x16_1 < (l0.length : Int)) = true := decide_eq_true c8
     clear c8
     by_cases c9 : 0 ≤ x16_1
     case neg => rw [if_neg c9] at H; exact absurd H (by simp)
     rw [if_pos c9] at H
     have c9b0 : decide (0 ≤ x16_1) = true := decide_eq_true c9
     clear c9
     by_cases c10 : x16_1 < (l0.length : Int)
     case neg => rw [if_neg c10] at H; exact absurd H (by simp)
     rw [if_pos c10] at H
     have c10b0 : decide (x16_1 < (l0.length : Int)) = true := decide_eq_true c10
     clear c10
     have H' := Aside0.mk H
     clear H
     have p161 : 0 ≤ (x16_1 : Int) := of_decide_eq_true (by assumption)
     have q161 : x16_1 < (l0.length : Int) := of_decide_eq_true (by assumption)
     obtain ⟨ad161, e161, hx161_0⟩ := Kd.at_int HR0.out x16_1 p161 q161
     cases e161
     replace hx161_0 := (HB.out.cell (World.block_lt_of_cell? w _ hx161_0)).trans hx161_0
     replace p161 := eq_true p161
     replace q161 := eq_true q161
     go_wp2
     go_loopg [3, 5, 6] k1 (fun kq v3 v5 v6 w' => ∃ (x3_2 : List Int) (x5_2 : Int) (x6_2 : Int), v5 = .int .u64 x5_2 ∧ v6 = .int .i64 x6_2 ∧ Aside0 (decimal_pieces_text.l1 kq l0 x3_2 x16_1 x5_2 x6_2 l0 (l0.length : Int) x16_1 = some r) ∧ Aside0 (kq ≤ k1) ∧ Aside0 (Kd.R (Kd.int .u8) 5 w' w.heap.size (fun _ => True) v3 x3_2) ∧ Aside0 (Below w.heap.size w w'))
     case atStart => exact ⟨(x3_1), (rd l0 x16_1), (0), (by first | rfl | (simp; done) | (simp [*]; done)), (by first | rfl | (simp; done) | (simp [*]; done)), H', ⟨Nat.le_refl _⟩, ⟨by apply_rules [HO_3.out, Kd.R_alloc, Kd.R_drewN, Kd.R_drew]⟩, ⟨by apply_rules [HB.out, below_alloc, pw_below_drewN, below_drew1]⟩⟩
     case round =>
      clear H'
      obtain ⟨x3_2, x5_2, x6_2, rfl, rfl, HA, HK2, HO_3, HB⟩ := hrel
      cases gk with
      | zero => exact absurd HA.out (by simp [decimal_pieces_text.l1])
      | succ k2 =>
       have H := HA.out
       clear HA
       simp only [decimal_pieces_text.l1] at H
       by_cases c11 : x6_2 < 9
       ·rw [if_pos c11] at H
        have c11b0 : decide (x6_2 < 9) = true := decide_eq_true c11
        clear c11
        by_cases c12 : (wrap64 (x16_1 + 1)) < (l0.length : Int)
        ·rw [if_pos c12] at H
         have c12b0 : decide ((wrap64 (x16_1 + 1)) < (l0.length : Int)) = true := decide_eq_true c12
         clear c12
         by_cases c13 : x3_2.length < 140737488355328
         case neg => rw [if_neg c13] at H; exact absurd H (by simp)
         rw [if_pos c13] at H
         have LMc13 := Aside0.mk c13
         clear c13
         obtain ⟨y162, hy162⟩ : ∃ y_ : List Int, y_ = (x3_2 ++ [(IntKind.u64.wrap (48 + (Int.tmod x5_2 10))) % 256]) := ⟨_, rfl⟩
         replace H : (decimal_pieces_text.l1 k2 l0 y162 x16_1 (IntKind.u64.wrap (Int.tdiv x5_2 10)) (wrap64 (x6_2 + 1)) l0 (l0.length : Int) x16_1) = some r := by first | (rw [hy162]; with_reducible exact H) | (have H2_ := (Option.bind_some _ _).symm.trans H; rw [hy162]; with_reducible exact H2_) | (have H2_ := (Option.bind_some _ _).symm.trans H; with_reducible exact H2_) | with_reducible exact H | (rw [hy162]; exact H) | exact H
         have Ny162 := Aside0.mk hy162
         clear hy162
         have H' := Aside0.mk H
         clear H
         go_wp2_with (first | ((with_reducible refine gate_builtin (b := .append) (xs := #[.tmp 36, .tmp 41]) rfl ?_); (try (refine gate_guard (by rfl) ?_; dsimp only)); at_builtin; refine Kd.R_append (Kd.int .u8) (w0 := w) w.heap.size rfl (.tmp 36) (.tmp 41) 191 5 (.int .u8 0) 1 rfl Tryz.underlying191 info5 rfl (by decide) (by omega) u3 x3_2 ((IntKind.u64.wrap (48 + (Int.tmod x5_2 10))) % 256) [.int .u8 ((IntKind.u64.wrap (48 + (Int.tmod x5_2 10))) % 256)] (fun _ => True) (fun _ => False) rfl rfl ?aP (fun _ hk => hk.elim) ?aF ?aO ?aB ?aS ?aL ?_; (case aP => exact rfl); (case aB => exact (by apply_rules [HB.out, below_alloc, pw_below_drewN, below_drew1])); (case aF => exact (fun _ _ => trivial)); (case aO => exact (by apply_rules [HO_3.out, Kd.R_alloc, Kd.R_drewN, Kd.R_drew])); (case aS => exact (below_size (by apply_rules [HB.out, below_alloc, pw_below_drewN, below_drew1]))); (case aL => have := LMc13.out; omega); intro v163 w14 ho hb hg hat; rw [← Ny162.out] at ho; replace HB := Aside0.mk (hb); have HO164 := Aside0.mk (ho); clear HO_3; clear ho hb hg hat))
         go_roundg k2
         case measure => have := HK1.out; have := HK2.out; omega
         case rel => exact ⟨(y162), (IntKind.u64.wrap (Int.tdiv x5_2 10)), (wrap64 (x6_2 + 1)), (by first | rfl | (simp; done) | (simp [*]; done)), (by first | rfl | (simp; done) | (simp [*]; done)), H', ⟨by have := HK1.out; have := HK2.out; omega⟩, ⟨by apply_rules [HO164.out, Kd.R_alloc, Kd.R_drewN, Kd.R_drew]⟩, ⟨by apply_rules [HB.out, below_alloc, pw_below_drewN, below_drew1]⟩⟩
        ·rw [if_neg c12] at H
         have c12b0 : decide ((wrap64 (x16_1 + 1)) < (l0.length : Int)) = false := decide_eq_false c12
         clear c12
         by_cases c15 : x5_2 > 0
         ·rw [if_pos c15] at H
          have c15b0 : decide (0 < x5_2) = true := decide_eq_true c15
          clear c15
          by_cases c16 : x3_2.length < 140737488355328
          case neg => rw [if_neg c16] at H; exact absurd H (by simp)
          rw [if_pos c16] at H
          have LMc16 := Aside0.mk c16
          clear c16
          obtain ⟨y165, hy165⟩ : ∃ y_ : List Int, y_ = (x3_2 ++ [(IntKind.u64.wrap (48 + (Int.tmod x5_2 10))) % 256]) := ⟨_, rfl⟩
          replace H : (decimal_pieces_text.l1 k2 l0 y165 x16_1 (IntKind.u64.wrap (Int.tdiv x5_2 10)) (wrap64 (x6_2 + 1)) l0 (l0.length : Int) x16_1) = some r := by first | (rw [hy165]; with_reducible exact H) | (have H2_ := (Option.bind_some _ _).symm.trans H; rw [hy165]; with_reducible exact H2_) | (have H2_ := (Option.bind_some _ _).symm.trans H; with_reducible exact H2_) | with_reducible exact H | (rw [hy165]; exact H) | exact H
          have Ny165 := Aside0.mk hy165
          clear hy165
          have H' := Aside0.mk H
          clear H
          go_wp2_with (first | ((with_reducible refine gate_builtin (b := .append) (xs := #[.tmp 36, .tmp 41]) rfl ?_); (try (refine gate_guard (by rfl) ?_; dsimp only)); at_builtin; refine Kd.R_append (Kd.int .u8) (w0 := w) w.heap.size rfl (.tmp 36) (.tmp 41) 191 5 (.int .u8 0) 1 rfl Tryz.underlying191 info5 rfl (by decide) (by omega) u3 x3_2 ((IntKind.u64.wrap (48 + (Int.tmod x5_2 10))) % 256) [.int .u8 ((IntKind.u64.wrap (48 + (Int.tmod x5_2 10))) % 256)] (fun _ => True) (fun _ => False) rfl rfl ?aP (fun _ hk => hk.elim) ?aF ?aO ?aB ?aS ?aL ?_; (case aP => exact rfl); (case aB => exact (by apply_rules [HB.out, below_alloc, pw_below_drewN, below_drew1])); (case aF => exact (fun _ _ => trivial)); (case aO => exact (by apply_rules [HO_3.out, Kd.R_alloc, Kd.R_drewN, Kd.R_drew])); (case aS => exact (below_size (by apply_rules [HB.out, below_alloc, pw_below_drewN, below_drew1]))); (case aL => have := LMc16.out; omega); intro v166 w17 ho hb hg hat; rw [← Ny165.out] at ho; replace HB := Aside0.mk (hb); have HO167 := Aside0.mk (ho); clear HO_3; clear ho hb hg hat))
          go_roundg k2
          case measure => have := HK1.out; have := HK2.out; omega
          case rel => exact ⟨(y165), (IntKind.u64.wrap (Int.tdiv x5_2 10)), (wrap64 (x6_2 + 1)), (by first | rfl | (simp; done) | (simp [*]; done)), (by first | rfl | (simp; done) | (simp [*]; done)), H', ⟨by have := HK1.out; have := HK2.out; omega⟩, ⟨by apply_rules [HO167.out, Kd.R_alloc, Kd.R_drewN, Kd.R_drew]⟩, ⟨by apply_rules [HB.out, below_alloc, pw_below_drewN, below_drew1]⟩⟩
         ·rw [if_neg c15] at H
          have c15b0 : decide (0 < x5_2) = false := decide_eq_false c15
          clear c15
          have H' := Aside0.mk H
          clear H
          go_wp2
          go_roundg k2
          case measure => have := HK1.out; have := HK2.out; omega
          case rel => exact ⟨(x3_2), (wrap64 (x16_1 + 1)), (by first | rfl | (simp; done) | (simp [*]; done)), H', ⟨by have := HK1.out; have := HK2.out; omega⟩, ⟨by apply_rules [HO_3.out, Kd.R_alloc, Kd.R_drewN, Kd.R_drew]⟩, ⟨by apply_rules [HB.out, below_alloc, pw_below_drewN, below_drew1]⟩⟩
       ·rw [if_neg c11] at H
        have c11b0 : decide (x6_2 < 9) = false := decide_eq_false c11
        clear c11
        have H' := Aside0.mk H
        clear H
        go_wp2
        go_roundg k2
        case measure => have := HK1.out; have := HK2.out; omega
        case rel => exact ⟨(x3_2), (wrap64 (x16_1 + 1)), (by first | rfl | (simp; done) | (simp [*]; done)), H', ⟨by have := HK1.out; have := HK2.out; omega⟩, ⟨by apply_rules [HO_3.out, Kd.R_alloc, Kd.R_drewN, Kd.R_drew]⟩, ⟨by apply_rules [HB.out, below_alloc, pw_below_drewN, below_drew1]⟩⟩
    ·rw [if_neg c8] at H
     have c8b0 : decide (x16_1 < (l0.length : Int)) = false := decide_eq_false c8
     clear c8
     replace H := Option.bind_eq_some_iff.mp H
     obtain ⟨t160, A180, H⟩ := H
     try dsimp only at H
     have A18 := Aside0.mk A180
     clear A180
     obtain rfl := Option.some.inj H
     obtain ⟨Ao19, co19, eo19⟩ := Kd.R_slice HO_3.out
     subst eo19
     go_wp2_with (first | ((with_reducible refine gate_callee (f := 174) rfl ?_); refine goesK (some 47) Tryz.func174 [.slice Ao19 x3_1.length co19] rfl rfl ?_; (with_reducible refine (slices_Reverse_byte_byte.calls k1 (fun k_ => some k_ = (.slice Ao19 x3_1.length co19 : Value).ownBlock) (.slice Ao19 x3_1.length co19) x3_1 t160 w _ ?side1 ?side2 A18.out).mono ?_); (case side1 => apply_rules [HB.out, below_alloc, pw_below_drewN, below_drew1]); (case side2 => exact Kd.R_tight rfl HO_3.out); rintro e w20 ⟨rfl, hy0, hb, hkp⟩; refine ⟨_, rfl, ?_⟩; replace HO_3 := Aside0.mk (Kd.R_reok rfl hy0 (fun k_ e_ => HO_3.out.1 k_ e_)); replace HB := Aside0.mk (hb); (try clear hb); (try clear hkp); (try clear hy0); have hcv21 := own_string (P := Tryz.prog) Tryz.underlying191 Tryz.underlying5 Tryz.underlying36 (Kd.own_of_R HO_3.out)))
     go_ret
     exact ⟨by first | rfl | (simp [errW_none, errW_some] <;> rfl) | (simp only [← hji3]; first | rfl | (simp [errW_none, errW_some] <;> rfl)) | (simp [*, errW_none, errW_some] <;> rfl), by apply_rules [HB.out, below_alloc, pw_below_drewN, below_drew1]⟩
end Go.Proofs.YtccebdpjdpjgnaaGreatDoor.P
