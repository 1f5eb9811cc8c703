/-
words of the walks
-/
import Derived.Test.YtccebdpjdpjgnaaGreatDoorMP11
import Derived.Test.YtccebdpjdpjgnaaGreatDoorMP12
set_option linter.unusedVariables false
set_option linter.unusedSimpArgs false
namespace Go.Proofs.YtccebdpjdpjgnaaGreatDoor.P
open Go.RowKit Go.Proofs.YtccebdpjdpjgnaaGreatDoorW.PrintWords Go.Proofs.YtccebdpjdpjgnaaGreatDoorW.PrintLast Go.Proofs.YtccebdpjdpjgnaaGreatDoorW.PrintMore
attribute [local go_sem] max2_int min2_int max_two min_two max_three min_three max_four min_four
set_option linter.unusedVariables false
set_option linter.unusedSimpArgs false
mutual
def decimal_pieces_divide.l0 : Nat → List Int → Int → List Int → List Int → Int → Option (List Int × List Int)
 | 0, _, _, _, _, _ => none
 | k + 1, x0, x6, x7, x8, x9 => if (x7.length : Int) ≤ (x0.length : Int) then (if x7.length < 17592186044416 then (decimal_pieces_divide.l0 k x0 x6 (x7 ++ [0]) x8 x9) else (none)) else (if 0 ≤ (wrap64 ((x7.length : Int) - x9)) then (if (wrap64 ((x7.length : Int) - x9) : Int).toNat ≤ 35184372088832 then (decimal_pieces_divide.l1 k x6 x7 x8 x9 (List.replicate (wrap64 ((x7.length : Int) - x9) : Int).toNat 0) (wrap64 ((wrap64 ((x7.length : Int) - x9)) - 1))) else (none)) else (none))
def decimal_pieces_divide.l1 : Nat → Int → List Int → List Int → Int → List Int → Int → Option (List Int × List Int)
 | 0, _, _, _, _, _, _ => none
 | k + 1, x6, x7, x8, x9, x10, x11 => if x11 ≥ 0 then (if 0 ≤ (wrap64 (x11 + x9)) then (if (wrap64 (x11 + x9)) < (x7.length : Int) then (if 0 ≤ (wrap64 ((wrap64 (x11 + x9)) - 1)) then (if (wrap64 ((wrap64 (x11 + x9)) - 1)) < (x7.length : Int) then (if 0 ≤ (wrap64 (x9 - 1)) then (if (wrap64 (x9 - 1)) < (x8.length : Int) then (if (rd x8 (wrap64 (x9 - 1))) = 0 then (none) else (decimal_pieces_divide.l2 k x6 x7 x8 x9 x10 x11 (IntKind.u64.wrap (Int.tdiv (IntKind.u64.wrap ((IntKind.u64.wrap ((rd x7 (wrap64 (x11 + x9))) * 1000000000)) + (rd x7 (wrap64 ((wrap64 (x11 + x9)) - 1))))) (rd x8 (wrap64 (x9 - 1))))) (Int.tmod (IntKind.u64.wrap ((IntKind.u64.wrap ((rd x7 (wrap64 (x11 + x9))) * 1000000000)) + (rd x7 (wrap64 ((wrap64 (x11 + x9)) - 1))))) (rd x8 (wrap64 (x9 - 1)))))) else (none)) else (none)) else (none)) else (none)) else (none)) else (none)) else ((decimal_pieces_trim.f k x7).bind fun t235 => ((decimal_pieces_small.f k t235 x6).bind fun bt238 => ((decimal_pieces_trim.f k x10).bind fun t242 => (some (t242, bt238.1)))))
def decimal_pieces_divide.j3 : Nat → Int → List Int → List Int → Int → List Int → Int → Int → Option (List Int × List Int)
 | 0, _, _, _, _, _, _, _ => none
 | k + 1, x6, x7, x8, x9, x10, x11, x13 => (decimal_pieces_take.f k x7 x8 x13 x11).bind fun bt253 => (if bt253.1 = true then ((decimal_pieces_back.f k bt253.2 x8 x11).bind fun t255 => (if 0 ≤ x11 then (if x11 < (x10.length : Int) then (decimal_pieces_divide.l1 k x6 t255 x8 x9 (x10.set (x11 : Int).toNat (IntKind.u64.wrap (x13 - 1))) (wrap64 (x11 - 1))) else (none)) else (none))) else (if 0 ≤ x11 then (if x11 < (x10.length : Int) then (decimal_pieces_divide.l1 k x6 bt253.2 x8 x9 (x10.set (x11 : Int).toNat x13) (wrap64 (x11 - 1))) else (none)) else (none)))
def decimal_pieces_divide.l2 : Nat → Int → List Int → List Int → Int → List Int → Int → Int → Int → Option (List Int × List Int)
 | 0, _, _, _, _, _, _, _, _ => none
 | k + 1, x6, x7, x8, x9, x10, x11, x13, x14 => if x13 ≥ 1000000000 then (if 0 ≤ (wrap64 (x9 - 1)) then (if (wrap64 (x9 - 1)) < (x8.length : Int) then (decimal_pieces_divide.l2 k x6 x7 x8 x9 x10 x11 (IntKind.u64.wrap (x13 - 1)) (IntKind.u64.wrap (x14 + (rd x8 (wrap64 (x9 - 1)))))) else (none)) else (none)) else (if x14 < 1000000000 then (if 0 ≤ (wrap64 (x9 - 2)) then (if (wrap64 (x9 - 2)) < (x8.length : Int) then (if 0 ≤ (wrap64 ((wrap64 (x11 + x9)) - 2)) then (if (wrap64 ((wrap64 (x11 + x9)) - 2)) < (x7.length : Int) then (if (IntKind.u64.wrap (x13 * (rd x8 (wrap64 (x9 - 2))))) > (IntKind.u64.wrap ((IntKind.u64.wrap (x14 * 1000000000)) + (rd x7 (wrap64 ((wrap64 (x11 + x9)) - 2))))) then (if 0 ≤ (wrap64 (x9 - 1)) then (if (wrap64 (x9 - 1)) < (x8.length : Int) then (decimal_pieces_divide.l2 k x6 x7 x8 x9 x10 x11 (IntKind.u64.wrap (x13 - 1)) (IntKind.u64.wrap (x14 + (rd x8 (wrap64 (x9 - 1)))))) else (none)) else (none)) else (decimal_pieces_divide.j3 k x6 x7 x8 x9 x10 x11 x13)) else (none)) else (none)) else (none)) else (none)) else (decimal_pieces_divide.j3 k x6 x7 x8 x9 x10 x11 x13))
end
def decimal_pieces_divide.f (k : Nat) (l0 : List Int) (l1 : List Int) : Option (List Int × List Int) := if 0 ≤ (wrap64 ((l1.length : Int) - 1)) then (if (wrap64 ((l1.length : Int) - 1)) < (l1.length : Int) then (if (IntKind.u64.wrap ((rd l1 (wrap64 ((l1.length : Int) - 1))) + 1)) = 0 then (none) else ((decimal_pieces_scaled.f k l0 (IntKind.u64.wrap (Int.tdiv (1000000000 : Int) (IntKind.u64.wrap ((rd l1 (wrap64 ((l1.length : Int) - 1))) + 1))))).bind fun t220 => (if t220.length < 17592186044416 then ((decimal_pieces_scaled.f k l1 (IntKind.u64.wrap (Int.tdiv (1000000000 : Int) (IntKind.u64.wrap ((rd l1 (wrap64 ((l1.length : Int) - 1))) + 1))))).bind fun t226 => (decimal_pieces_divide.l0 k l0 (IntKind.u64.wrap (Int.tdiv (1000000000 : Int) (IntKind.u64.wrap ((rd l1 (wrap64 ((l1.length : Int) - 1))) + 1)))) (t220 ++ [0]) t226 (t226.length : Int))) else (none)))) else (none)) else (none)
set_option maxHeartbeats 8000000 in
set_option maxRecDepth 100000 in
theorem decimal_pieces_divide.calls (k : Nat) (A0 : Option Addr) (c0 : Nat) (l0 : List Int) (A1 : Option Addr) (c1 : Nat) (l1 : List Int) (r1 : List Int) (r2 : List Int) (w : World) (hr0 : Kd.C (Kd.int .u64) w A0 l0.length l0) (hc0 : l0.length ≤ c0) (hr1 : Kd.C (Kd.int .u64) w A1 l1.length l1) (hc1 : l1.length ≤ c1) (h : decimal_pieces_divide.f k l0 l1 = some (r1, r2)) :
  Calls Tryz.prog 225 #[.slice A0 l0.length c0, .slice A1 l1.length c1] w fun e w' => ∃ v0_ v1_ : Value, e = .returned (.tuple #[v0_, v1_]) ∧ Kd.R (Kd.int .u64) 139 w' w.heap.size (fun k_ => some k_ ≠ (v1_ : Value).ownBlock) v0_ r1 ∧ Kd.R (Kd.int .u64) 139 w' w.heap.size (fun k_ => some k_ ≠ (v0_ : Value).ownBlock) v1_ r2 ∧ Below w.heap.size w w' := by
 have HR0 := Aside0.mk hr0
 have HC0 := Aside0.mk hc0
 clear hr0 hc0
 have HR1 := Aside0.mk hr1
 have HC1 := Aside0.mk hc1
 clear hr1 hc1
 have HB := Aside0.mk (Below.refl w.heap.size w)
 have H : (if 0 ≤ (wrap64 ((l1.length : Int) - 1)) then (if (wrap64 ((l1.length : Int) - 1)) < (l1.length : Int) then (if (IntKind.u64.wrap ((rd l1 (wrap64 ((l1.length : Int) - 1))) + 1)) = 0 then (none) else ((decimal_pieces_scaled.f k l0 (IntKind.u64.wrap (Int.tdiv (1000000000 : Int) (IntKind.u64.wrap ((rd l1 (wrap64 ((l1.length : Int) - 1))) + 1))))).bind fun t220 => (if t220.length < 17592186044416 then ((decimal_pieces_scaled.f k l1 (IntKind.u64.wrap (Int.tdiv (1000000000 : Int) (IntKind.u64.wrap ((rd l1 (wrap64 ((l1.length : Int) - 1))) + 1))))).bind fun t226 => (decimal_pieces_divide.l0 k l0 (IntKind.u64.wrap (Int.tdiv (1000000000 : Int) (IntKind.u64.wrap ((rd l1 (wrap64 ((l1.length : Int) - 1))) + 1)))) (t220 ++ [0]) t226 (t226.length : Int))) else (none)))) else (none)) else (none)) = some (r1, r2) := h
 clear h
 obtain ⟨ji3, hji3⟩ : ∃ j_ : Int, (wrap64 ((l1.length : Int) - 1)) = j_ := ⟨_, rfl⟩
 replace H : (if 0 ≤ (ji3) then (if (ji3) < (l1.length : Int) then (if (IntKind.u64.wrap ((rd l1 (ji3)) + 1)) = 0 then (none) else ((decimal_pieces_scaled.f k l0 (IntKind.u64.wrap (Int.tdiv (1000000000 : Int) (IntKind.u64.wrap ((rd l1 (ji3)) + 1))))).bind fun t220 => (if t220.length < 17592186044416 then ((decimal_pieces_scaled.f k l1 (IntKind.u64.wrap (Int.tdiv (1000000000 : Int) (IntKind.u64.wrap ((rd l1 (ji3)) + 1))))).bind fun t226 => (decimal_pieces_divide.l0 k l0 (IntKind.u64.wrap (Int.tdiv (1000000000 : Int) (IntKind.u64.wrap ((rd l1 (ji3)) + 1)))) (t220 ++ [0]) t226 (t226.length : Int))) else (none)))) else (none)) else (none)) = some (r1, r2) := by first | (rw [hji3] at H; exact H) | (simp only [hji3] at H ⊢; exact H)
 have hji3w : (IntKind.i64.wrap ((l1.length : Int) - 1)) = ji3 := (i64_w _).trans hji3
 by_cases c4 : 0 ≤ (ji3)
 case neg => rw [if_neg c4] at H; exact absurd H (by simp)
 rw [if_pos c4] at H
 have c4b0 : decide (0 ≤ (ji3)) = true := decide_eq_true c4
 clear c4
 by_cases c5 : (ji3) < (l1.length : Int)
 case neg => rw [if_neg c5] at H; exact absurd H (by simp)
 rw [if_pos c5] at H
 have c5b0 : decide ((ji3) < (l1.length : Int)) = true := decide_eq_true c5
 clear c5
 by_cases c6 : (IntKind.u64.wrap ((rd l1 (ji3)) + 1)) = 0
 case pos => rw [if_pos c6] at H; exact absurd H (by simp)
 rw [if_neg c6] at H
 have c6b0 : ((IntKind.u64.wrap ((rd l1 (ji3)) + 1)) == 0) = false := beq_eq_false_iff_ne.mpr c6
 have c6b1 : ((IntKind.u64.wrap ((rd l1 (ji3)) + 1)) != 0) = true := bne_iff_ne.mpr c6
 replace H := Option.bind_eq_some_iff.mp H
 obtain ⟨t220, A70, H⟩ := H
 try dsimp only at H
 have A7 := Aside0.mk A70
 clear A70
 by_cases c8 : t220.length < 17592186044416
 case neg => rw [if_neg c8] at H; exact absurd H (by simp)
 rw [if_pos c8] at H
 have LMc8 := Aside0.mk c8
 clear c8
 obtain ⟨y223, hy223⟩ : ∃ y_ : List Int, y_ = (t220 ++ [0]) := ⟨_, rfl⟩
 replace H : ((decimal_pieces_scaled.f k l1 (IntKind.u64.wrap (Int.tdiv (1000000000 : Int) (IntKind.u64.wrap ((rd l1 (ji3)) + 1))))).bind fun t226 => (decimal_pieces_divide.l0 k l0 (IntKind.u64.wrap (Int.tdiv (1000000000 : Int) (IntKind.u64.wrap ((rd l1 (ji3)) + 1)))) y223 t226 (t226.length : Int))) = some (r1, r2) := by first | (rw [hy223]; with_reducible exact H) | (have H2_ := (Option.bind_some _ _).symm.trans H; rw [hy223]; with_reducible exact H2_) | (have H2_ := (Option.bind_some _ _).symm.trans H; with_reducible exact H2_) | with_reducible exact H | (rw [hy223]; exact H) | exact H
 have Ny223 := Aside0.mk hy223
 clear hy223
 replace H := Option.bind_eq_some_iff.mp H
 obtain ⟨t226, A90, H⟩ := H
 try dsimp only at H
 have A9 := Aside0.mk A90
 clear A90
 have H' := Aside0.mk H
 clear H
 have p219 : 0 ≤ ((ji3) : Int) := of_decide_eq_true (by assumption)
 have q219 : (ji3) < (l1.length : Int) := of_decide_eq_true (by assumption)
 obtain ⟨ad219, e219, hx219_0⟩ := Kd.at_int HR1.out (ji3) p219 q219
 cases e219
 replace p219 := eq_true p219
 replace q219 := eq_true q219
 go_enter Tryz.func225, Tryz.ntmps225
 go_wp2_with (first | (go_at_call 265; (with_reducible refine (decimal_pieces_scaled.calls k _ _ l0 (IntKind.u64.wrap (Int.tdiv (1000000000 : Int) (IntKind.u64.wrap ((rd l1 (ji3)) + 1)))) t220 _ ?side1 ?side2 A7.out).mono ?_); (case side1 => apply_rules [HR0.out, Kd.C_alloc, Kd.C_drewN, Kd.C_drew]); (case side2 => exact HC0.out); rintro e w10 ⟨v221, rfl, ho0, hb⟩; have HO222 := Aside0.mk (Kd.R_lower ho0 (below_size (by apply_rules [HB.out, below_alloc, pw_below_drewN, below_drew1]))); replace HB := Aside0.mk (below_step (by apply_rules [HB.out, below_alloc, pw_below_drewN, below_drew1]) hb); (try clear hb); (try clear ho0)) | ((with_reducible refine gate_builtin (b := .append) (xs := #[.tmp 27, .tmp 28]) rfl ?_); at_builtin; refine Kd.R_append (Kd.int .u64) (w0 := w) w.heap.size rfl (.tmp 27) (.tmp 28) 141 139 (.int .u64 0) 8 rfl Tryz.underlying141 info139 rfl (by decide) (by omega) v221 t220 0 [.int .u64 0] (fun _ => True) (fun _ => False) rfl rfl ?aP (fun _ hk => hk.elim) ?aF ?aO ?aB ?aS ?aL ?_; (case aP => exact rfl); (case aB => exact (by apply_rules [HB.out, below_alloc, pw_below_drewN, below_drew1])); (case aF => exact (fun _ _ => trivial)); (case aO => exact (by apply_rules [HO222.out, Kd.R_alloc, Kd.R_drewN, Kd.R_drew])); (case aS => exact (below_size (by apply_rules [HB.out, below_alloc, pw_below_drewN, below_drew1]))); (case aL => have := LMc8.out; omega); intro v224 w11 ho hb hg hat; rw [← Ny223.out] at ho; replace HB := Aside0.mk (hb); have HO225 := Aside0.mk (ho); clear HO222; clear ho hb hg hat) | (go_at_call 265; (with_reducible refine (decimal_pieces_scaled.calls k _ _ l1 (IntKind.u64.wrap (Int.tdiv (1000000000 : Int) (IntKind.u64.wrap ((rd l1 (ji3)) + 1)))) t226 _ ?side1 ?side2 A9.out).mono ?_); (case side1 => apply_rules [(Kd.C_below HR1.out HB.out), Kd.C_alloc, Kd.C_drewN, Kd.C_drew]); (case side2 => exact HC1.out); rintro e w12 ⟨v227, rfl, ho0, hb⟩; have n0_ := Aside0.mk (Kd.R_elder' (by apply_rules [HO225.out, Kd.R_alloc, Kd.R_drewN, Kd.R_drew]) (Kd.R_base ho0) hb); have n1_ := Aside0.mk (Kd.R_lower (Kd.R_new' ho0 (Kd.R_lt (by apply_rules [HO225.out, Kd.R_alloc, Kd.R_drewN, Kd.R_drew]))) (below_size (by apply_rules [HB.out, below_alloc, pw_below_drewN, below_drew1]))); have n2_ := Aside0.mk (below_step (by apply_rules [HB.out, below_alloc, pw_below_drewN, below_drew1]) hb); clear HO225; clear HB; have HO225 := n0_; have HO228 := n1_; have HB := n2_; clear n0_ n1_ n2_; (try clear hb); (try clear ho0); obtain ⟨Ao13, co13, eo13⟩ := Kd.R_slice HO228.out; subst eo13))
 go_loopg [7] k (fun kq v7 w' => ∃ (x7_1 : List Int), Aside0 (decimal_pieces_divide.l0 kq l0 (IntKind.u64.wrap (Int.tdiv (1000000000 : Int) (IntKind.u64.wrap ((rd l1 (ji3)) + 1)))) x7_1 t226 (t226.length : Int) = some (r1, r2)) ∧ Aside0 (kq ≤ k) ∧ Aside0 (Kd.R (Kd.int .u64) 139 w' w.heap.size (fun k_ => some k_ ≠ ((.slice Ao13 t226.length co13) : Value).ownBlock) v7 x7_1) ∧ Aside0 (Kd.R (Kd.int .u64) 139 w' w.heap.size (fun k_ => some k_ ≠ (v7 : Value).ownBlock) (.slice Ao13 t226.length co13) t226) ∧ Aside0 (Below w.heap.size w w'))
 case atStart => exact ⟨(y223), H', ⟨Nat.le_refl _⟩, ⟨by (with_reducible repeat (first | apply Kd.R_alloc | apply Kd.R_drewN | apply Kd.R_drew)); exact Kd.R_mono HO225.out (fun _ hk => hk.2)⟩, ⟨by (with_reducible repeat (first | apply Kd.R_alloc | apply Kd.R_drewN | apply Kd.R_drew)); exact Kd.R_mono HO228.out (fun _ hk => hk.2)⟩, ⟨by apply_rules [HB.out, below_alloc, pw_below_drewN, below_drew1]⟩⟩
 case round =>
  clear H'
  obtain ⟨x7_1, HA, HK1, HO_7, HO_8, HB⟩ := hrel
  cases gk with
  | zero => exact absurd HA.out (by simp [decimal_pieces_divide.l0])
  | succ k1 =>
   have H := HA.out
   clear HA
   simp only [decimal_pieces_divide.l0] at H
   by_cases c14 : (x7_1.length : Int) ≤ (l0.length : Int)
   ·rw [if_pos c14] at H
    have c14b0 : decide ((x7_1.length : Int) ≤ (l0.length : Int)) = true := decide_eq_true c14
    have c14b1 : decide (x7_1.length ≤ l0.length) = true := decide_eq_true (Int.ofNat_le.mp c14)
    clear c14
    by_cases c15 : x7_1.length < 17592186044416
    case neg => rw [if_neg c15] at H; exact absurd H (by simp)
    rw [if_pos c15] at H
    have LMc15 := Aside0.mk c15
    clear c15
    obtain ⟨y229, hy229⟩ : ∃ y_ : List Int, y_ = (x7_1 ++ [0]) := ⟨_, rfl⟩
    replace H : (decimal_pieces_divide.l0 k1 l0 (IntKind.u64.wrap (Int.tdiv (1000000000 : Int) (IntKind.u64.wrap ((rd l1 (ji3)) + 1)))) y229 t226 (t226.length : Int)) = some (r1, r2) := by first | (rw [hy229]; with_reducible exact H) | (have H2_ := (Option.bind_some _ _).symm.trans H; rw [hy229]; with_reducible exact H2_) | (have H2_ := (Option.bind_some _ _).symm.trans H; with_reducible exact H2_) | with_reducible exact H | (rw [hy229]; exact H) | exact H
    have Ny229 := Aside0.mk hy229
    clear hy229
    have H' := Aside0.mk H
    clear H
    obtain ⟨Ao16, co16, eo16⟩ := Kd.R_slice HO_7.out
    subst eo16
    go_wp2_with (first | ((with_reducible refine gate_builtin (b := .append) (xs := #[.tmp 40, .tmp 41]) rfl ?_); at_builtin; refine Kd.R_append (Kd.int .u64) (w0 := w) w.heap.size rfl (.tmp 40) (.tmp 41) 141 139 (.int .u64 0) 8 rfl Tryz.underlying141 info139 rfl (by decide) (by omega) (.slice Ao16 x7_1.length co16) x7_1 0 [.int .u64 0] (fun k_ => some k_ ≠ (.slice Ao13 t226.length co13 : Value).ownBlock) (fun _ => False) rfl rfl ?aP (fun _ hk => hk.elim) ?aF ?aO ?aB ?aS ?aL ?_; (case aP => exact rfl); (case aB => exact (by apply_rules [HB.out, below_alloc, pw_below_drewN, below_drew1])); (case aF => exact (fun k_ hk => Kd.fresh' (Kd.R_lt (by apply_rules [HO_8.out, Kd.R_alloc, Kd.R_drewN, Kd.R_drew])) k_ hk)); (case aO => exact (by apply_rules [HO_7.out, Kd.R_alloc, Kd.R_drewN, Kd.R_drew])); (case aS => exact (below_size (by apply_rules [HB.out, below_alloc, pw_below_drewN, below_drew1]))); (case aL => have := LMc15.out; omega); intro v230 w17 ho hb hg hat; rw [← Ny229.out] at ho; replace HO_8 := Aside0.mk (Kd.R_after (ok := (fun _ => True)) (by (with_reducible repeat (first | apply Kd.R_alloc | apply Kd.R_drewN | apply Kd.R_drew)); exact Kd.R_mono HO_8.out (fun _ hk => ⟨trivial, hk⟩)) hg hat); replace HB := Aside0.mk (hb); have HO231 := Aside0.mk (ho); clear HO_7; clear ho hb hg hat))
    go_roundg k1
    case measure => have := HK1.out; omega
    case rel => exact ⟨(y229), H', ⟨by have := HK1.out; omega⟩, ⟨by apply_rules [HO231.out, Kd.R_alloc, Kd.R_drewN, Kd.R_drew]⟩, ⟨by (with_reducible repeat (first | apply Kd.R_alloc | apply Kd.R_drewN | apply Kd.R_drew)); exact Kd.R_mono HO_8.out (fun _ hk => hk.2)⟩, ⟨by apply_rules [HB.out, below_alloc, pw_below_drewN, below_drew1]⟩⟩
   ·rw [if_neg c14] at H
    have c14b0 : decide ((x7_1.length : Int) ≤ (l0.length : Int)) = false := decide_eq_false c14
    have c14b1 : decide (x7_1.length ≤ l0.length) = false := decide_eq_false (fun h => c14 (Int.ofNat_le.mpr h))
    clear c14
    obtain ⟨ji18, hji18⟩ : ∃ j_ : Int, (wrap64 ((x7_1.length : Int) - (t226.length : Int))) = j_ := ⟨_, rfl⟩
    replace H : (if 0 ≤ (ji18) then (if (ji18 : Int).toNat ≤ 35184372088832 then (decimal_pieces_divide.l1 k1 (IntKind.u64.wrap (Int.tdiv (1000000000 : Int) (IntKind.u64.wrap ((rd l1 (ji3)) + 1)))) x7_1 t226 (t226.length : Int) (List.replicate (ji18 : Int).toNat 0) (wrap64 ((ji18) - 1))) else (none)) else (none)) = some (r1, r2) := by first | (rw [hji18] at H; exact H) | (simp only [hji18] at H ⊢; exact H)
    have hji18w : (IntKind.i64.wrap ((x7_1.length : Int) - (t226.length : Int))) = ji18 := (i64_w _).trans hji18
    by_cases c19 : 0 ≤ (ji18)
    case neg => rw [if_neg c19] at H; exact absurd H (by simp)
    rw [if_pos c19] at H
    have c19b0 := eq_true c19
    have c19b1 : decide (0 ≤ (ji18)) = true := decide_eq_true c19
    clear c19
    by_cases c20 : (ji18 : Int).toNat ≤ 35184372088832
    case neg => rw [if_neg c20] at H; exact absurd H (by simp)
    rw [if_pos c20] at H
    have c20b0 := eq_true c20
    have c20b1 : decide ((ji18 : Int).toNat ≤ 35184372088832) = true := decide_eq_true c20
    clear c20
    obtain ⟨y232, hy232⟩ : ∃ y_ : List Int, y_ = (List.replicate (ji18 : Int).toNat 0) := ⟨_, rfl⟩
    replace H : (decimal_pieces_divide.l1 k1 (IntKind.u64.wrap (Int.tdiv (1000000000 : Int) (IntKind.u64.wrap ((rd l1 (ji3)) + 1)))) x7_1 t226 (t226.length : Int) y232 (wrap64 ((ji18) - 1))) = some (r1, r2) := by first | (rw [hy232]; with_reducible exact H) | (have H2_ := (Option.bind_some _ _).symm.trans H; rw [hy232]; with_reducible exact H2_) | (have H2_ := (Option.bind_some _ _).symm.trans H; with_reducible exact H2_) | with_reducible exact H | (rw [hy232]; exact H) | exact H
    have Ny232 := Aside0.mk hy232
    clear hy232
    have H' := Aside0.mk H
    clear H
    obtain ⟨Ao21, co21, eo21⟩ := Kd.R_slice HO_7.out
    subst eo21
    go_wp2_with (first | ((with_reducible refine gate_dst (N := 47) rfl ?_); refine Kd.R_make (Kd.int .u64) _ 139 rfl (N := 47) rfl 141 _ _ rfl ji18 rfl rfl Tryz.underlying141 (.int .u64 0) 8 info139 rfl (by decide) (by omega) 0 (ok := fun _ => True) (okp := fun _ => True) rfl (fun _ hk => hk) trivial (of_decide_eq_true (by assumption)) (Nat.le_trans (Nat.mul_le_mul_right _ (of_decide_eq_true (by assumption) : ji18.toNat ≤ 35184372088832)) (by omega)) (Below.refl _ _) (Nat.le_refl _) ?_; intro v233 w22 ho23 hb hg_ hnew_; clear hg_ hnew_; (first | rw [← Ny232.out] at ho23 | (simp only [Int.reduceToNat] at ho23; rw [← Ny232.out] at ho23)); have n0_ := Aside0.mk (Kd.R_elder' (by apply_rules [HO_7.out, Kd.R_alloc, Kd.R_drewN, Kd.R_drew]) (Kd.R_base ho23) hb); have n1_ := Aside0.mk (Kd.R_elder' (by apply_rules [HO_8.out, Kd.R_alloc, Kd.R_drewN, Kd.R_drew]) (Kd.R_base ho23) hb); have n2_ := Aside0.mk (Kd.R_lower (Kd.R_new' (Kd.R_new' ho23 (Kd.R_lt (by apply_rules [HO_7.out, Kd.R_alloc, Kd.R_drewN, Kd.R_drew]))) (Kd.R_lt (by apply_rules [HO_8.out, Kd.R_alloc, Kd.R_drewN, Kd.R_drew]))) (below_size (by apply_rules [HB.out, below_alloc, pw_below_drewN, below_drew1]))); have n3_ := Aside0.mk (below_step (by apply_rules [HB.out, below_alloc, pw_below_drewN, below_drew1]) hb); clear HO_7; clear HO_8; clear HB; have HO_7 := n0_; have HO_8 := n1_; have HO234 := n2_; have HB := n3_; clear n0_ n1_ n2_ n3_; clear hb ho23))
    go_loopg [11] k1 (fun kq v11 w' => ∃ (x7_2 : List Int) (x10_2 : List Int) (x11_2 : Int), v11 = .int .i64 x11_2 ∧ Aside0 (decimal_pieces_divide.l1 kq (IntKind.u64.wrap (Int.tdiv (1000000000 : Int) (IntKind.u64.wrap ((rd l1 (ji3)) + 1)))) x7_2 t226 (t226.length : Int) x10_2 x11_2 = some (r1, r2)) ∧ Aside0 (kq ≤ k1) ∧ Aside0 (Kd.R (Kd.int .u64) 139 w' w.heap.size (fun k_ => some k_ ≠ ((.slice Ao13 t226.length co13) : Value).ownBlock ∧ some k_ ≠ (v233 : Value).ownBlock) (.slice Ao21 x7_1.length co21) x7_2) ∧ Aside0 (Kd.R (Kd.int .u64) 139 w' w.heap.size (fun k_ => some k_ ≠ ((.slice Ao21 x7_1.length co21) : Value).ownBlock ∧ some k_ ≠ (v233 : Value).ownBlock) (.slice Ao13 t226.length co13) t226) ∧ Aside0 (Kd.R (Kd.int .u64) 139 w' w.heap.size (fun k_ => some k_ ≠ ((.slice Ao21 x7_1.length co21) : Value).ownBlock ∧ some k_ ≠ ((.slice Ao13 t226.length co13) : Value).ownBlock) v233 x10_2) ∧ Aside0 (Below w.heap.size w w'))
    case atStart => exact ⟨(x7_1), (y232), (wrap64 ((ji18) - 1)), (by first | rfl | (simp; done) | (simp only [← hji18] <;> (first | rfl | simp)) | (simp [*]; done)), H', ⟨Nat.le_refl _⟩, ⟨by apply_rules [HO_7.out, Kd.R_alloc, Kd.R_drewN, Kd.R_drew]⟩, ⟨by apply_rules [HO_8.out, Kd.R_alloc, Kd.R_drewN, Kd.R_drew]⟩, ⟨by (with_reducible repeat (first | apply Kd.R_alloc | apply Kd.R_drewN | apply Kd.R_drew)); exact Kd.R_mono HO234.out (fun _ hk => ⟨hk.1.2, hk.2⟩)⟩, ⟨by apply_rules [HB.out, below_alloc, pw_below_drewN, below_drew1]⟩⟩
    case round =>
     clear H'
     obtain ⟨x7_2, x10_2, x11_2, rfl, HA, HK2, HO_7, HO_8, HO_10, HB⟩ := hrel
     have hl7_2 := (Kd.R_reads' HO_7.out).1
     rw [hl7_2] at HO_7
     (try simp only [hl7_2])
     (try simp only [hl7_2] at HO_8)
     (try simp only [hl7_2] at HO_10)
     cases gk with
     | zero => exact absurd HA.out (by simp [decimal_pieces_divide.l1])
     | succ k2 =>
      have H := HA.out
      clear HA
      simp only [decimal_pieces_divide.l1] at H
      by_cases c24 : x11_2 ≥ 0
      ·rw [if_pos c24] at H
       have c24b0 : decide (0 ≤ x11_2) = true := decide_eq_true c24
       clear c24
       obtain ⟨ji25, hji25⟩ : ∃ j_ : Int, (wrap64 (x11_2 + (t226.length : Int))) = j_ := ⟨_, rfl⟩
       replace H : (if 0 ≤ (ji25) then (if (ji25) < (x7_2.length : Int) then (if 0 ≤ (wrap64 ((ji25) - 1)) then (if (wrap64 ((ji25) - 1)) < (x7_2.length : Int) then (if 0 ≤ (wrap64 ((t226.length : Int) - 1)) then (if (wrap64 ((t226.length : Int) - 1)) < (t226.length : Int) then (if (rd t226 (wrap64 ((t226.length : Int) - 1))) = 0 then (none) else (decimal_pieces_divide.l2 k2 (IntKind.u64.wrap (Int.tdiv (1000000000 : Int) (IntKind.u64.wrap ((rd l1 (ji3)) + 1)))) x7_2 t226 (t226.length : Int) x10_2 x11_2 (IntKind.u64.wrap (Int.tdiv (IntKind.u64.wrap ((IntKind.u64.wrap ((rd x7_2 (ji25)) * 1000000000)) + (rd x7_2 (wrap64 ((ji25) - 1))))) (rd t226 (wrap64 ((t226.length : Int) - 1))))) (Int.tmod (IntKind.u64.wrap ((IntKind.u64.wrap ((rd x7_2 (ji25)) * 1000000000)) + (rd x7_2 (wrap64 ((ji25) - 1))))) (rd t226 (wrap64 ((t226.length : Int) - 1)))))) else (none)) else (none)) else (none)) else (none)) else (none)) else (none)) = some (r1, r2) := by first | (rw [hji25] at H; exact H) | (simp only [hji25] at H ⊢; exact H)
       have hji25w : (IntKind.i64.wrap (x11_2 + (t226.length : Int))) = ji25 := (i64_w _).trans hji25
       by_cases c26 : 0 ≤ (ji25)
       case neg => rw [if_neg c26] at H; exact absurd H (by simp)
       rw [if_pos c26] at H
       have c26b0 : decide (0 ≤ (ji25)) = true := decide_eq_true c26
       clear c26
       by_cases c27 : (ji25) < (x7_2.length : Int)
       case neg => rw [if_neg c27] at H; exact absurd H (by simp)
       rw [if_pos c27] at H
       have c27b0 : decide ((ji25) < (x7_2.length : Int)) = true := decide_eq_true c27
       clear c27
       obtain ⟨ji28, hji28⟩ : ∃ j_ : Int, (wrap64 ((ji25) - 1)) = j_ := ⟨_, rfl⟩
       replace H : (if 0 ≤ (ji28) then (if (ji28) < (x7_2.length : Int) then (if 0 ≤ (wrap64 ((t226.length : Int) - 1)) then (if (wrap64 ((t226.length : Int) - 1)) < (t226.length : Int) then (if (rd t226 (wrap64 ((t226.length : Int) - 1))) = 0 then (none) else (decimal_pieces_divide.l2 k2 (IntKind.u64.wrap (Int.tdiv (1000000000 : Int) (IntKind.u64.wrap ((rd l1 (ji3)) + 1)))) x7_2 t226 (t226.length : Int) x10_2 x11_2 (IntKind.u64.wrap (Int.tdiv (IntKind.u64.wrap ((IntKind.u64.wrap ((rd x7_2 (ji25)) * 1000000000)) + (rd x7_2 (ji28)))) (rd t226 (wrap64 ((t226.length : Int) - 1))))) (Int.tmod (IntKind.u64.wrap ((IntKind.u64.wrap ((rd x7_2 (ji25)) * 1000000000)) + (rd x7_2 (ji28)))) (rd t226 (wrap64 ((t226.length : Int) - 1)))))) else (none)) else (none)) else (none)) else (none)) = some (r1, r2) := by first | (rw [hji28] at H; exact H) | (simp only [hji28] at H ⊢; exact H)
       have hji28w : (IntKind.i64.wrap ((ji25) - 1)) = ji28 := (i64_w _).trans hji28
       by_cases c29 : 0 ≤ (ji28)
       case neg => rw [if_neg c29] at H; exact absurd H (by simp)
       rw [if_pos c29] at H
       have c29b0 : decide (0 ≤ (ji28)) = true := decide_eq_true c29
       clear c29
       by_cases c30 : (ji28) < (x7_2.length : Int)
       case neg => rw [if_neg c30] at H; exact absurd H (by simp)
       rw [if_pos c30] at H
       have c30b0 : decide ((ji28) < (x7_2.length : Int)) = true := decide_eq_true c30
       clear c30
       obtain ⟨ji31, hji31⟩ : ∃ j_ : Int, (wrap64 ((t226.length : Int) - 1)) = j_ := ⟨_, rfl⟩
       replace H : (if 0 ≤ (ji31) then (if (ji31) < (t226.length : Int) then (if (rd t226 (ji31)) = 0 then (none) else (decimal_pieces_divide.l2 k2 (IntKind.u64.wrap (Int.tdiv (1000000000 : Int) (IntKind.u64.wrap ((rd l1 (ji3)) + 1)))) x7_2 t226 (t226.length : Int) x10_2 x11_2 (IntKind.u64.wrap (Int.tdiv (IntKind.u64.wrap ((IntKind.u64.wrap ((rd x7_2 (ji25)) * 1000000000)) + (rd x7_2 (ji28)))) (rd t226 (ji31)))) (Int.tmod (IntKind.u64.wrap ((IntKind.u64.wrap ((rd x7_2 (ji25)) * 1000000000)) + (rd x7_2 (ji28)))) (rd t226 (ji31))))) else (none)) else (none)) = some (r1, r2) := by first | (rw [hji31] at H; exact H) | (simp only [hji31] at H ⊢; exact H)
       have hji31w : (IntKind.i64.wrap ((t226.length : Int) - 1)) = ji31 := (i64_w _).trans hji31
       by_cases c32 : 0 ≤ (ji31)
       case neg => rw [if_neg c32] at H; exact absurd H (by simp)
       rw [if_pos c32] at H
       have c32b0 : decide (0 ≤ (ji31)) = true := decide_eq_true c32
       clear c32
       by_cases c33 : (ji31) < (t226.length : Int)
       case neg => rw [if_neg c33] at H; exact absurd H (by simp)
       rw [if_pos c33] at H
       have c33b0 : decide ((ji31) < (t226.length : Int)) = true := decide_eq_true c33
       clear c33
       by_cases c34 : (rd t226 (ji31)) = 0
       case pos => rw [if_pos c34] at H; exact absurd H (by simp)
       rw [if_neg c34] at H
       have c34b0 : ((rd t226 (ji31)) == 0) = false := beq_eq_false_iff_ne.mpr c34
       have c34b1 : ((rd t226 (ji31)) != 0) = true := bne_iff_ne.mpr c34
       have HC35 := Aside0.mk H
       clear H
       have p245 : 0 ≤ ((ji25) : Int) := of_decide_eq_true (by assumption)
       have q245 : (ji25) < (x7_2.length : Int) := of_decide_eq_true (by assumption)
       obtain ⟨ad245, e245, hx245_0⟩ := Kd.at_int (Kd.R_reads' HO_7.out).2.2 (ji25) p245 q245
       cases e245
       replace p245 := eq_true p245
       replace q245 := eq_true q245
       have p246 : 0 ≤ ((ji28) : Int) := of_decide_eq_true (by assumption)
       have q246 : (ji28) < (x7_2.length : Int) := of_decide_eq_true (by assumption)
       obtain ⟨ad246, e246, hx246_0⟩ := Kd.at_int (Kd.R_reads' HO_7.out).2.2 (ji28) p246 q246
       obtain rfl : ad245 = ad246 := (by injection e246)
       replace p246 := eq_true p246
       replace q246 := eq_true q246
       have p247 : 0 ≤ ((ji31) : Int) := of_decide_eq_true (by assumption)
       have q247 : (ji31) < (t226.length : Int) := of_decide_eq_true (by assumption)
       obtain ⟨ad247, e247, hx247_0⟩ := Kd.at_int (Kd.R_reads' HO_8.out).2.2 (ji31) p247 q247
       cases e247
       replace p247 := eq_true p247
       replace q247 := eq_true q247
       have p248 : 0 ≤ ((ji31) : Int) := of_decide_eq_true (by assumption)
       have q248 : (ji31) < (t226.length : Int) := of_decide_eq_true (by assumption)
       obtain ⟨ad248, e248, hx248_0⟩ := Kd.at_int (Kd.R_reads' HO_8.out).2.2 (ji31) p248 q248
       obtain rfl : ad247 = ad248 := (by injection e248)
       replace p248 := eq_true p248
       replace q248 := eq_true q248
       go_upto_block 4 with (fail)
       repeat (go_quiet (fail); go_upto_block 4 with (fail))
       go_cut [13] (fun v13 wc => ∃ (kq : Nat) (x13_34 : Int), v13 = .int .u64 x13_34 ∧ Aside0 (decimal_pieces_divide.j3 kq (IntKind.u64.wrap (Int.tdiv (1000000000 : Int) (IntKind.u64.wrap ((rd l1 (ji3)) + 1)))) x7_2 t226 (t226.length : Int) x10_2 x11_2 x13_34 = some (r1, r2)) ∧ Aside0 (kq ≤ k2) ∧ Aside0 (Kd.R (Kd.int .u64) 139 wc w.heap.size (fun k_ => some k_ ≠ ((.slice (some ad247) t226.length co13) : Value).ownBlock ∧ some k_ ≠ (v233 : Value).ownBlock) (.slice (some ad245) x7_2.length co21) x7_2) ∧ Aside0 (Kd.R (Kd.int .u64) 139 wc w.heap.size (fun k_ => some k_ ≠ ((.slice (some ad245) x7_2.length co21) : Value).ownBlock ∧ some k_ ≠ (v233 : Value).ownBlock) (.slice (some ad247) t226.length co13) t226) ∧ Aside0 (Kd.R (Kd.int .u64) 139 wc w.heap.size (fun k_ => some k_ ≠ ((.slice (some ad245) x7_2.length co21) : Value).ownBlock ∧ some k_ ≠ ((.slice (some ad247) t226.length co13) : Value).ownBlock) v233 x10_2) ∧ Aside0 (Below w.heap.size w wc))
       case first =>
        have H := HC35.out
        clear HC35
        have H' := Aside0.mk H
        clear H
        go_wp2
        go_loopg [13, 14] k2 (fun kq v13 v14 w' => ∃ (x13_3 : Int) (x14_3 : Int), v13 = .int .u64 x13_3 ∧ v14 = .int .u64 x14_3 ∧ Aside0 (decimal_pieces_divide.l2 kq (IntKind.u64.wrap (Int.tdiv (1000000000 : Int) (IntKind.u64.wrap ((rd l1 (ji3)) + 1)))) x7_2 t226 (t226.length : Int) x10_2 x11_2 x13_3 x14_3 = some (r1, r2)) ∧ Aside0 (kq ≤ k2) ∧ Aside0 (Kd.R (Kd.int .u64) 139 w' w.heap.size (fun k_ => some k_ ≠ ((.slice (some ad247) t226.length co13) : Value).ownBlock ∧ some k_ ≠ (v233 : Value).ownBlock) (.slice (some ad245) x7_2.length co21) x7_2) ∧ Aside0 (Kd.R (Kd.int .u64) 139 w' w.heap.size (fun k_ => some k_ ≠ ((.slice (some ad245) x7_2.length co21) : Value).ownBlock ∧ some k_ ≠ (v233 : Value).ownBlock) (.slice (some ad247) t226.length co13) t226) ∧ Aside0 (Kd.R (Kd.int .u64) 139 w' w.heap.size (fun k_ => some k_ ≠ ((.slice (some ad245) x7_2.length co21) : Value).ownBlock ∧ some k_ ≠ ((.slice (some ad247) t226.length co13) : Value).ownBlock) v233 x10_2) ∧ Aside0 (Below w.heap.size w w'))
        case atStart => exact ⟨(IntKind.u64.wrap (Int.tdiv (IntKind.u64.wrap ((IntKind.u64.wrap ((rd x7_2 (ji25)) * 1000000000)) + (rd x7_2 (ji28)))) (rd t226 (ji31)))), (Int.tmod (IntKind.u64.wrap ((IntKind.u64.wrap ((rd x7_2 (ji25)) * 1000000000)) + (rd x7_2 (ji28)))) (rd t226 (ji31))), (by first | rfl | (simp; done) | (simp only [← hji25, ← hji28, ← hji31] <;> (first | rfl | simp)) | (simp [*]; done)), (by first | rfl | (simp; done) | (simp only [← hji25, ← hji28, ← hji31] <;> (first | rfl | simp)) | (simp [*]; done)), H', ⟨Nat.le_refl _⟩, ⟨by (try simp only [hl7_2]); apply_rules [HO_7.out, Kd.R_alloc, Kd.R_drewN, Kd.R_drew]⟩, ⟨by (try simp only [hl7_2]); apply_rules [HO_8.out, Kd.R_alloc, Kd.R_drewN, Kd.R_drew]⟩, ⟨by (try simp only [hl7_2]); apply_rules [HO_10.out, Kd.R_alloc, Kd.R_drewN, Kd.R_drew]⟩, ⟨by apply_rules [HB.out, below_alloc, pw_below_drewN, below_drew1]⟩⟩
        case round =>
         clear H'
         obtain ⟨x13_3, x14_3, rfl, rfl, HA, HK3, HO_7, HO_8, HO_10, HB⟩ := hrel
         cases gk with
         | zero => exact absurd HA.out (by simp [decimal_pieces_divide.l2])
         | succ k3 =>
          have H := HA.out
          clear HA
          simp only [decimal_pieces_divide.l2] at H
          by_cases c36 : x13_3 ≥ 1000000000
          ·rw [if_pos c36] at H
           have c36b0 : decide (1000000000 ≤ x13_3) = true := decide_eq_true c36
           clear c36
           (first | rw [c36b0] | (simp only [i64_w, i32_w]; rw [c36b0]) | skip)
           obtain ⟨ji37, hji37⟩ : ∃ j_ : Int, (wrap64 ((t226.length : Int) - 1)) = j_ := ⟨_, rfl⟩
           first | (obtain rfl : ji37 = ji31 := hji37.symm.trans hji31) | skip
           replace H : (if 0 ≤ (ji37) then (if (ji37) < (t226.length : Int) then (decimal_pieces_divide.l2 k3 (IntKind.u64.wrap (Int.tdiv (1000000000 : Int) (IntKind.u64.wrap ((rd l1 (ji3)) + 1)))) x7_2 t226 (t226.length : Int) x10_2 x11_2 (IntKind.u64.wrap (x13_3 - 1)) (IntKind.u64.wrap (x14_3 + (rd t226 (ji37))))) else (none)) else (none)) = some (r1, r2) := by first | (rw [hji37] at H; exact H) | (simp only [hji37] at H ⊢; exact H)
           have hji37w : (IntKind.i64.wrap ((t226.length : Int) - 1)) = ji37 := (i64_w _).trans hji37
           by_cases c38 : 0 ≤ (ji37)
           case neg => rw [if_neg c38] at H; exact absurd H (by simp)
           rw [if_pos c38] at H
           have c38b0 : decide (0 ≤ (ji37)) = true := decide_eq_true c38
           clear c38
           by_cases c39 : (ji37) < (t226.length : Int)
           case neg => rw [if_neg c39] at H; exact absurd H (by simp)
           rw [if_pos c39] at H
           have c39b0 : decide ((ji37) < (t226.length : Int)) = true := decide_eq_true c39
           clear c39
           have H' := Aside0.mk H
           clear H
           have p249 : 0 ≤ ((ji37) : Int) := of_decide_eq_true (by assumption)
           have q249 : (ji37) < (t226.length : Int) := of_decide_eq_true (by assumption)
           obtain ⟨ad249, e249, hx249_0⟩ := Kd.at_int (Kd.R_reads' HO_8.out).2.2 (ji37) p249 q249
           obtain rfl : ad247 = ad249 := (by injection e249)
           replace p249 := eq_true p249
           replace q249 := eq_true q249
           go_wp2
           repeat (go_quiet (fail); try go_wp2)
           go_roundg k3
           case measure => have := HK1.out; have := HK2.out; have := HK3.out; omega
           case rel => exact ⟨(IntKind.u64.wrap (x13_3 - 1)), (IntKind.u64.wrap (x14_3 + (rd t226 (ji37)))), (by first | rfl | (simp; done) | (simp [*]; done)), (by first | rfl | (simp; done) | (simp only [← hji37] <;> (first | rfl | simp)) | (simp [*]; done)), H', ⟨by have := HK1.out; have := HK2.out; have := HK3.out; omega⟩, ⟨by (try simp only [hl7_2]); apply_rules [HO_7.out, Kd.R_alloc, Kd.R_drewN, Kd.R_drew]⟩, ⟨by (try simp only [hl7_2]); apply_rules [HO_8.out, Kd.R_alloc, Kd.R_drewN, Kd.R_drew]⟩, ⟨by (try simp only [hl7_2]); apply_rules [HO_10.out, Kd.R_alloc, Kd.R_drewN, Kd.R_drew]⟩, ⟨by apply_rules [HB.out, below_alloc, pw_below_drewN, below_drew1]⟩⟩
          ·rw [if_neg c36] at H
           have c36b0 : decide (1000000000 ≤ x13_3) = false := decide_eq_false c36
           clear c36
           (first | rw [c36b0] | (simp only [i64_w, i32_w]; rw [c36b0]) | skip)
           by_cases c40 : x14_3 < 1000000000
           ·rw [if_pos c40] at H
            have c40b0 : decide (x14_3 < 1000000000) = true := decide_eq_true c40
            clear c40
            obtain ⟨ji41, hji41⟩ : ∃ j_ : Int, (wrap64 ((t226.length : Int) - 2)) = j_ := ⟨_, rfl⟩
            replace H : (if 0 ≤ (ji41) then (if (ji41) < (t226.length : Int) then (if 0 ≤ (wrap64 ((wrap64 (x11_2 + (t226.length : Int))) - 2)) then (if (wrap64 ((wrap64 (x11_2 + (t226.length : Int))) - 2)) < (x7_2.length : Int) then (if (IntKind.u64.wrap (x13_3 * (rd t226 (ji41)))) > (IntKind.u64.wrap ((IntKind.u64.wrap (x14_3 * 1000000000)) + (rd x7_2 (wrap64 ((wrap64 (x11_2 + (t226.length : Int))) - 2))))) then (if 0 ≤ (wrap64 ((t226.length : Int) - 1)) then (if (wrap64 ((t226.length : Int) - 1)) < (t226.length : Int) then (decimal_pieces_divide.l2 k3 (IntKind.u64.wrap (Int.tdiv (1000000000 : Int) (IntKind.u64.wrap ((rd l1 (ji3)) + 1)))) x7_2 t226 (t226.length : Int) x10_2 x11_2 (IntKind.u64.wrap (x13_3 - 1)) (IntKind.u64.wrap (x14_3 + (rd t226 (wrap64 ((t226.length : Int) - 1)))))) else (none)) else (none)) else (decimal_pieces_divide.j3 k3 (IntKind.u64.wrap (Int.tdiv (1000000000 : Int) (IntKind.u64.wrap ((rd l1 (ji3)) + 1)))) x7_2 t226 (t226.length : Int) x10_2 x11_2 x13_3)) else (none)) else (none)) else (none)) else (none)) = some (r1, r2) := by first | (rw [hji41] at H; exact H) | (simp only [hji41] at H ⊢; exact H)
            have hji41w : (IntKind.i64.wrap ((t226.length : Int) - 2)) = ji41 := (i64_w _).trans hji41
            by_cases c42 : 0 ≤ (ji41)
            case neg => rw [if_neg c42] at H; exact absurd H (by simp)
            rw [if_pos c42] at H
            have c42b0 : decide (0 ≤ (ji41)) = true := decide_eq_true c42
            clear c42
            by_cases c43 : (ji41) < (t226.length : Int)
            case neg => rw [if_neg c43] at H; exact absurd H (by simp)
            rw [if_pos c43] at H
            have c43b0 : decide ((ji41) < (t226.length : Int)) = true := decide_eq_true c43
            clear c43
            obtain ⟨ji44, hji44⟩ : ∃ j_ : Int, (wrap64 ((wrap64 (x11_2 + (t226.length : Int))) - 2)) = j_ := ⟨_, rfl⟩
            replace H : (if 0 ≤ (ji44) then (if (ji44) < (x7_2.length : Int) then (if (IntKind.u64.wrap (x13_3 * (rd t226 (ji41)))) > (IntKind.u64.wrap ((IntKind.u64.wrap (x14_3 * 1000000000)) + (rd x7_2 (ji44)))) then (if 0 ≤ (wrap64 ((t226.length : Int) - 1)) then (if (wrap64 ((t226.length : Int) - 1)) < (t226.length : Int) then (decimal_pieces_divide.l2 k3 (IntKind.u64.wrap (Int.tdiv (1000000000 : Int) (IntKind.u64.wrap ((rd l1 (ji3)) + 1)))) x7_2 t226 (t226.length : Int) x10_2 x11_2 (IntKind.u64.wrap (x13_3 - 1)) (IntKind.u64.wrap (x14_3 + (rd t226 (wrap64 ((t226.length : Int) - 1)))))) else (none)) else (none)) else (decimal_pieces_divide.j3 k3 (IntKind.u64.wrap (Int.tdiv (1000000000 : Int) (IntKind.u64.wrap ((rd l1 (ji3)) + 1)))) x7_2 t226 (t226.length : Int) x10_2 x11_2 x13_3)) else (none)) else (none)) = some (r1, r2) := by first | (rw [hji44] at H; exact H) | (simp only [hji44] at H ⊢; exact H)
            have hji44w : (IntKind.i64.wrap ((wrap64 (x11_2 + (t226.length : Int))) - 2)) = ji44 := (i64_w _).trans hji44
            have hji44v := hji44w
            try simp only [hji25] at hji44v
            by_cases c45 : 0 ≤ (ji44)
            case neg => rw [if_neg c45] at H; exact absurd H (by simp)
            rw [if_pos c45] at H
            have c45b0 : decide (0 ≤ (ji44)) = true := decide_eq_true c45
            clear c45
            by_cases c46 : (ji44) < (x7_2.length : Int)
            case neg => rw [if_neg c46] at H; exact absurd H (by simp)
            rw [if_pos c46] at H
            have c46b0 : decide ((ji44) < (x7_2.length : Int)) = true := decide_eq_true c46
            clear c46
            by_cases c47 : (IntKind.u64.wrap (x13_3 * (rd t226 (ji41)))) > (IntKind.u64.wrap ((IntKind.u64.wrap (x14_3 * 1000000000)) + (rd x7_2 (ji44))))
            ·rw [if_pos c47] at H
             have c47b0 : decide ((IntKind.u64.wrap ((IntKind.u64.wrap (x14_3 * 1000000000)) + (rd x7_2 (ji44)))) < (IntKind.u64.wrap (x13_3 * (rd t226 (ji41))))) = true := decide_eq_true c47
             clear c47
             obtain ⟨ji48, hji48⟩ : ∃ j_ : Int, (wrap64 ((t226.length : Int) - 1)) = j_ := ⟨_, rfl⟩
             first | (obtain rfl : ji48 = ji31 := hji48.symm.trans hji31) | skip
             replace H : (if 0 ≤ (ji48) then (if (ji48) < (t226.length : Int) then (decimal_pieces_divide.l2 k3 (IntKind.u64.wrap (Int.tdiv (1000000000 : Int) (IntKind.u64.wrap ((rd l1 (ji3)) + 1)))) x7_2 t226 (t226.length : Int) x10_2 x11_2 (IntKind.u64.wrap (x13_3 - 1)) (IntKind.u64.wrap (x14_3 + (rd t226 (ji48))))) else (none)) else (none)) = some (r1, r2) := by first | (rw [hji48] at H; exact H) | (simp only [hji48] at H ⊢; exact H)
             have hji48w : (IntKind.i64.wrap ((t226.length : Int) - 1)) = ji48 := (i64_w _).trans hji48
             by_cases c49 : 0 ≤ (ji48)
             case neg => rw [if_neg c49] at H; exact absurd H (by simp)
             rw [if_pos c49] at H
             have c49b0 : decide (0 ≤ (ji48)) = true := decide_eq_true c49
             clear c49
             by_cases c50 : (ji48) < (t226.length : Int)
             case neg => rw [if_neg c50] at H; exact absurd H (by simp)
             rw [if_pos c50] at H
             have c50b0 : decide ((ji48) < (t226.length : Int)) = true := decide_eq_true c50
             clear c50
             have H' := Aside0.mk H
             clear H
             have p250 : 0 ≤ ((ji41) : Int) := of_decide_eq_true (by assumption)
             have q250 : (ji41) < (t226.length : Int) := of_decide_eq_true (by assumption)
             obtain ⟨ad250, e250, hx250_0⟩ := Kd.at_int (Kd.R_reads' HO_8.out).2.2 (ji41) p250 q250
             obtain rfl : ad247 = ad250 := (by injection e250)
             replace p250 := eq_true p250
             replace q250 := eq_true q250
             have p251 : 0 ≤ ((ji44) : Int) := of_decide_eq_true (by assumption)
             have q251 : (ji44) < (x7_2.length : Int) := of_decide_eq_true (by assumption)
             obtain ⟨ad251, e251, hx251_0⟩ := Kd.at_int (Kd.R_reads' HO_7.out).2.2 (ji44) p251 q251
             obtain rfl : ad245 = ad251 := (by injection e251)
             replace p251 := eq_true p251
             replace q251 := eq_true q251
             have p252 : 0 ≤ ((ji48) : Int) := of_decide_eq_true (by assumption)
             have q252 : (ji48) < (t226.length : Int) := of_decide_eq_true (by assumption)
             obtain ⟨ad252, e252, hx252_0⟩ := Kd.at_int (Kd.R_reads' HO_8.out).2.2 (ji48) p252 q252
             obtain rfl : ad247 = ad252 := (by injection e252)
             replace p252 := eq_true p252
             replace q252 := eq_true q252
             go_wp2
             repeat (go_quiet (fail); try go_wp2)
             go_roundg k3
             case measure => have := HK1.out; have := HK2.out; have := HK3.out; omega
             case rel => exact ⟨(IntKind.u64.wrap (x13_3 - 1)), (IntKind.u64.wrap (x14_3 + (rd t226 (ji48)))), (by first | rfl | (simp; done) | (simp [*]; done)), (by first | rfl | (simp; done) | (simp only [← hji48] <;> (first | rfl | simp)) | (simp [*]; done)), H', ⟨by have := HK1.out; have := HK2.out; have := HK3.out; omega⟩, ⟨by (try simp only [hl7_2]); apply_rules [HO_7.out, Kd.R_alloc, Kd.R_drewN, Kd.R_drew]⟩, ⟨by (try simp only [hl7_2]); apply_rules [HO_8.out, Kd.R_alloc, Kd.R_drewN, Kd.R_drew]⟩, ⟨by (try simp only [hl7_2]); apply_rules [HO_10.out, Kd.R_alloc, Kd.R_drewN, Kd.R_drew]⟩, ⟨by apply_rules [HB.out, below_alloc, pw_below_drewN, below_drew1]⟩⟩
            ·rw [if_neg c47] at H
             have c47b0 : decide ((IntKind.u64.wrap ((IntKind.u64.wrap (x14_3 * 1000000000)) + (rd x7_2 (ji44)))) < (IntKind.u64.wrap (x13_3 * (rd t226 (ji41))))) = false := decide_eq_false c47
             clear c47
             have H' := Aside0.mk H
             clear H
             have p250 : 0 ≤ ((ji41) : Int) := of_decide_eq_true (by assumption)
             have q250 : (ji41) < (t226.length : Int) := of_decide_eq_true (by assumption)
             obtain ⟨ad250, e250, hx250_0⟩ := Kd.at_int (Kd.R_reads' HO_8.out).2.2 (ji41) p250 q250
             obtain rfl : ad247 = ad250 := (by injection e250)
             replace p250 := eq_true p250
             replace q250 := eq_true q250
             have p251 : 0 ≤ ((ji44) : Int) := of_decide_eq_true (by assumption)
             have q251 : (ji44) < (x7_2.length : Int) := of_decide_eq_true (by assumption)
             obtain ⟨ad251, e251, hx251_0⟩ := Kd.at_int (Kd.R_reads' HO_7.out).2.2 (ji44) p251 q251
             obtain rfl : ad245 = ad251 := (by injection e251)
             replace p251 := eq_true p251
             replace q251 := eq_true q251
             go_wp2
             repeat (go_quiet (fail); try go_wp2)
             go_meet
             case rel => exact ⟨_, (x13_3), (by first | rfl | (simp; done) | (simp [*]; done)), H', ⟨by have := HK1.out; have := HK2.out; have := HK3.out; first | omega | exact Nat.le_refl _⟩, ⟨by (try simp only [hl7_2]); apply_rules [HO_7.out, Kd.R_alloc, Kd.R_drewN, Kd.R_drew]⟩, ⟨by (try simp only [hl7_2]); apply_rules [HO_8.out, Kd.R_alloc, Kd.R_drewN, Kd.R_drew]⟩, ⟨by (try simp only [hl7_2]); apply_rules [HO_10.out, Kd.R_alloc, Kd.R_drewN, Kd.R_drew]⟩, ⟨by apply_rules [HB.out, below_alloc, pw_below_drewN, below_drew1]⟩⟩
           ·rw [if_neg c40] at H
            have c40b0 : decide (x14_3 < 1000000000) = false := decide_eq_false c40
            clear c40
            have H' := Aside0.mk H
            clear H
            go_wp2
            repeat (go_quiet (fail); try go_wp2)
            go_meet
            case rel => exact ⟨_, (x13_3), (by first | rfl | (simp; done) | (simp [*]; done)), H', ⟨by have := HK1.out; have := HK2.out; have := HK3.out; first | omega | exact Nat.le_refl _⟩, ⟨by (try simp only [hl7_2]); apply_rules [HO_7.out, Kd.R_alloc, Kd.R_drewN, Kd.R_drew]⟩, ⟨by (try simp only [hl7_2]); apply_rules [HO_8.out, Kd.R_alloc, Kd.R_drewN, Kd.R_drew]⟩, ⟨by (try simp only [hl7_2]); apply_rules [HO_10.out, Kd.R_alloc, Kd.R_drewN, Kd.R_drew]⟩, ⟨by apply_rules [HB.out, below_alloc, pw_below_drewN, below_drew1]⟩⟩
       case rest =>
        clear HC35
        obtain ⟨kq, x13_34, rfl, HA, HJ34, HO_7, HO_8, HO_10, HB⟩ := hcut
        cases kq with
        | zero => exact absurd HA.out (by simp [decimal_pieces_divide.j3])
        | succ kj34 =>
         have H := HA.out
         clear HA
         simp only [decimal_pieces_divide.j3] at H
         replace H := Option.bind_eq_some_iff.mp H
         obtain ⟨⟨t253, t254⟩, A510, H⟩ := H
         try dsimp only at H
         have A51 := Aside0.mk A510
         clear A510
         by_cases c52 : t253 = true
         ·subst c52
          have H1 : ((decimal_pieces_back.f kj34 t254 t226 x11_2).bind fun t255 => (if 0 ≤ x11_2 then (if x11_2 < (x10_2.length : Int) then (decimal_pieces_divide.l1 kj34 (IntKind.u64.wrap (Int.tdiv (1000000000 : Int) (IntKind.u64.wrap ((rd l1 (ji3)) + 1)))) t255 t226 (t226.length : Int) (x10_2.set (x11_2 : Int).toNat (IntKind.u64.wrap (x13_34 - 1))) (wrap64 (x11_2 - 1))) else (none)) else (none))) = some (r1, r2) := by rw [if_pos rfl] at H; exact H
          clear H
          have H := H1
          clear H1
          replace H := Option.bind_eq_some_iff.mp H
          obtain ⟨t255, A530, H⟩ := H
          try dsimp only at H
          have A53 := Aside0.mk A530
          clear A530
          by_cases c54 : 0 ≤ x11_2
          case neg => rw [if_neg c54] at H; exact absurd H (by simp)
          rw [if_pos c54] at H
          have c54b0 : decide (0 ≤ x11_2) = true := decide_eq_true c54
          clear c54
          by_cases c55 : x11_2 < (x10_2.length : Int)
          case neg => rw [if_neg c55] at H; exact absurd H (by simp)
          rw [if_pos c55] at H
          have c55b0 : decide (x11_2 < (x10_2.length : Int)) = true := decide_eq_true c55
          clear c55
          obtain ⟨y256, hy256⟩ : ∃ y_ : List Int, y_ = (x10_2.set (x11_2 : Int).toNat (IntKind.u64.wrap (x13_34 - 1))) := ⟨_, rfl⟩
          replace H : (decimal_pieces_divide.l1 kj34 (IntKind.u64.wrap (Int.tdiv (1000000000 : Int) (IntKind.u64.wrap ((rd l1 (ji3)) + 1)))) t255 t226 (t226.length : Int) y256 (wrap64 (x11_2 - 1))) = some (r1, r2) := by first | (rw [hy256]; with_reducible exact H) | (have H2_ := (Option.bind_some _ _).symm.trans H; rw [hy256]; with_reducible exact H2_) | (have H2_ := (Option.bind_some _ _).symm.trans H; with_reducible exact H2_) | with_reducible exact H | (rw [hy256]; exact H) | exact H
          have Ny256 := Aside0.mk hy256
          clear hy256
          have H' := Aside0.mk H
          clear H
          go_wp2_with (first | (go_at_call 178; (with_reducible refine (decimal_pieces_take.calls kj34 (fun k_ => some k_ = (.slice (some ad245) x7_2.length co21 : Value).ownBlock) (.slice (some ad245) x7_2.length co21) x7_2 _ _ t226 x13_34 x11_2 true t254 w _ ?side1 ?side2 ?side3 ?side4 A51.out).mono ?_); (case side1 => apply_rules [HB.out, below_alloc, pw_below_drewN, below_drew1]); (case side2 => exact Kd.R_tight rfl HO_7.out); (case side3 => exact Kd.C_kept_own (HO_8.out) (fun k_ hk_ hs_ => (hk_.1) hs_)); (case side4 => exact (Kd.R_reads' HO_8.out).2.1); rintro e w57 ⟨rfl, hy0, hb, hkp⟩; replace HO_7 := Aside0.mk (Kd.R_reok rfl hy0 (fun k_ e_ => HO_7.out.1 k_ e_)); replace HO_8 := Aside0.mk (Kd.R_mono (ok' := fun k_ => some k_ ≠ (.slice (some ad245) x7_2.length co21 : Value).ownBlock ∧ some k_ ≠ (v233 : Value).ownBlock) (Kd.R_keptB (HO_8.out) hkp (fun k_ hk_ hs_ => (hk_.1) hs_)) (fun k_ hk_ => ⟨hk_.1.1, hk_.1.2⟩)); replace HO_10 := Aside0.mk (Kd.R_mono (ok' := fun k_ => some k_ ≠ (.slice (some ad245) x7_2.length co21 : Value).ownBlock ∧ some k_ ≠ (.slice (some ad247) t226.length co13 : Value).ownBlock) (Kd.R_keptB (HO_10.out) hkp (fun k_ hk_ hs_ => (hk_.1) hs_)) (fun k_ hk_ => ⟨hk_.1.1, hk_.1.2⟩)); replace HB := Aside0.mk (hb); (try clear hb); (try clear hkp); (try clear hy0)) | (go_at_call 176; (with_reducible refine (decimal_pieces_back.calls kj34 (fun k_ => some k_ = (.slice (some ad245) x7_2.length co21 : Value).ownBlock) (.slice (some ad245) x7_2.length co21) t254 _ _ t226 x11_2 t255 w _ ?side1 ?side2 ?side3 ?side4 A53.out).mono ?_); (case side1 => apply_rules [HB.out, below_alloc, pw_below_drewN, below_drew1]); (case side2 => exact Kd.R_tight rfl HO_7.out); (case side3 => exact Kd.C_kept_own (HO_8.out) (fun k_ hk_ hs_ => (hk_.1) hs_)); (case side4 => exact (Kd.R_reads' HO_8.out).2.1); rintro e w58 ⟨rfl, hy0, hb, hkp⟩; replace HO_7 := Aside0.mk (Kd.R_reok rfl hy0 (fun k_ e_ => HO_7.out.1 k_ e_)); replace HO_8 := Aside0.mk (Kd.R_mono (ok' := fun k_ => some k_ ≠ (.slice (some ad245) x7_2.length co21 : Value).ownBlock ∧ some k_ ≠ (v233 : Value).ownBlock) (Kd.R_keptB (HO_8.out) hkp (fun k_ hk_ hs_ => (hk_.1) hs_)) (fun k_ hk_ => ⟨hk_.1.1, hk_.1.2⟩)); replace HO_10 := Aside0.mk (Kd.R_mono (ok' := fun k_ => some k_ ≠ (.slice (some ad245) x7_2.length co21 : Value).ownBlock ∧ some k_ ≠ (.slice (some ad247) t226.length co13 : Value).ownBlock) (Kd.R_keptB (HO_10.out) hkp (fun k_ hk_ hs_ => (hk_.1) hs_)) (fun k_ hk_ => ⟨hk_.1.1, hk_.1.2⟩)); replace HB := Aside0.mk (hb); (try clear hb); (try clear hkp); (try clear hy0); have p56 : 0 ≤ (x11_2 : Int) := of_decide_eq_true (by assumption); have q56 : (x11_2 : Int) < ((x10_2.length : Int) : Int) := of_decide_eq_true (by assumption); obtain ⟨go56, co56, eo56, gb56, gl56, cl56, HG56⟩ := Kd.R_form HO_10.out (by omega); (first | cases eo56 | (injection eo56 with ea_ en_ ec_; (first | subst ea_ | (injection ea_ with ea_; subst ea_)); subst ec_; clear en_)); have GB56 := Aside0.mk gb56; have GG56 := Aside0.mk HG56; clear gb56 gl56 HG56; obtain ⟨hx56_0, hf56_0⟩ := Kd.R_celln 0 HO_10.out (x11_2 : Int) p56 q56; replace p56 := eq_true p56; replace q56 := eq_true q56; obtain ⟨hy59_, hz59_⟩ := Kd.R_celln 0 HO_10.out (x11_2 : Int) (of_decide_eq_true (by assumption)) (of_decide_eq_true (by assumption)); have HP59 := Kd.R_putg HO_10.out (x11_2 : Int) (IntKind.u64.wrap (x13_34 - 1))) | ((with_reducible refine gate_store (t := 139) (p := 135) rfl ?_); (try (rw [drewN_self w58]; generalize hq_ : World.drewN w58 _ = w58; replace HO_7 := Aside0.mk (Kd.R_at hq_ HO_7.out); replace HO_8 := Aside0.mk (Kd.R_at hq_ HO_8.out); replace HO_10 := Aside0.mk (Kd.R_at hq_ HO_10.out); replace HB := Aside0.mk (below_at hq_ HB.out); clear hq_; (try (obtain ⟨hy59_, hz59_⟩ := Kd.R_celln 0 HO_10.out (x11_2 : Int) (of_decide_eq_true (by assumption)) (of_decide_eq_true (by assumption)))); (try (have HP59 := Kd.R_putg HO_10.out (x11_2 : Int) (IntKind.u64.wrap (x13_34 - 1)))))); refine store_event (t := 139) (p := 135) (v := ?vo_w60) (w1 := (w58.setCell ⟨go56, (x11_2 : Int).toNat, none⟩ (.int .u64 (IntKind.u64.wrap (x13_34 - 1))))) ?hg ?ho ?hn ?hr ?_; (case ho => rfl); (case hg => rfl); (case hn => rfl); (case hr => go_simp; try rfl); intro w60 hw; have hg : w58.grownBy w60 (some go56) := (by rw [hw]; exact HP59.2); have hp_ : Kd.R (Kd.int .u64) 139 w60 w.heap.size (fun k_ => some k_ ≠ (.slice (some ad245) x7_2.length co21 : Value).ownBlock ∧ some k_ ≠ (.slice (some ad247) t226.length co13 : Value).ownBlock) (.slice (some ⟨go56, 0, none⟩) x10_2.length co56) y256 := (by rw [hw, Ny256.out]; exact HP59.1); clear HP59; replace HO_7 := Aside0.mk (Kd.R_after (v := (.slice (some ⟨go56, 0, none⟩) x10_2.length co56)) (v1 := (.slice (some ⟨go56, 0, none⟩) x10_2.length co56)) (ok := (fun k_ => some k_ ≠ (.slice (some ad247) t226.length co13 : Value).ownBlock)) (by apply_rules [HO_7.out, Kd.R_alloc, Kd.R_drewN, Kd.R_drew]) hg (.inl rfl)); replace HO_8 := Aside0.mk (Kd.R_after (v := (.slice (some ⟨go56, 0, none⟩) x10_2.length co56)) (v1 := (.slice (some ⟨go56, 0, none⟩) x10_2.length co56)) (ok := (fun k_ => some k_ ≠ (.slice (some ad245) x7_2.length co21 : Value).ownBlock)) (by apply_rules [HO_8.out, Kd.R_alloc, Kd.R_drewN, Kd.R_drew]) hg (.inl rfl)); replace HO_10 := Aside0.mk (hp_); replace HB := Aside0.mk ((by rw [hw]; exact below_set (HB.out) GB56.out : Below w.heap.size w w60)); clear hg hw hp_))
          (try simp only [← hl7_2])
          go_roundg kj34
          case measure => have := HK1.out; have := HK2.out; have := HJ34.out; omega
          case rel => exact ⟨(t255), (y256), (wrap64 (x11_2 - 1)), (by first | rfl | (simp; done) | (simp [*]; done)), H', ⟨by have := HK1.out; have := HK2.out; have := HJ34.out; omega⟩, ⟨by (try simp only [hl7_2]); apply_rules [HO_7.out, Kd.R_alloc, Kd.R_drewN, Kd.R_drew]⟩, ⟨by (try simp only [hl7_2]); apply_rules [HO_8.out, Kd.R_alloc, Kd.R_drewN, Kd.R_drew]⟩, ⟨by (try simp only [hl7_2]); apply_rules [HO_10.out, Kd.R_alloc, Kd.R_drewN, Kd.R_drew]⟩, ⟨by apply_rules [HB.out, below_alloc, pw_below_drewN, below_drew1]⟩⟩
         ·replace c52 := Bool.eq_false_iff.mpr c52
          subst c52
          have H1 : (if 0 ≤ x11_2 then (if x11_2 < (x10_2.length : Int) then (decimal_pieces_divide.l1 kj34 (IntKind.u64.wrap (Int.tdiv (1000000000 : Int) (IntKind.u64.wrap ((rd l1 (ji3)) + 1)))) t254 t226 (t226.length : Int) (x10_2.set (x11_2 : Int).toNat x13_34) (wrap64 (x11_2 - 1))) else (none)) else (none)) = some (r1, r2) := by rw [if_neg (show ¬ (false = true) by decide)] at H; exact H
          clear H
          have H := H1
          clear H1
          by_cases c61 : 0 ≤ x11_2
          case neg => rw [if_neg c61] at H; exact absurd H (by simp)
          rw [if_pos c61] at H
          have c61b0 : decide (0 ≤ x11_2) = true := decide_eq_true c61
          clear c61
          by_cases c62 : x11_2 < (x10_2.length : Int)
          case neg => rw [if_neg c62] at H; exact absurd H (by simp)
          rw [if_pos c62] at H
          have c62b0 : decide (x11_2 < (x10_2.length : Int)) = true := decide_eq_true c62
          clear c62
          obtain ⟨y257, hy257⟩ : ∃ y_ : List Int, y_ = (x10_2.set (x11_2 : Int).toNat x13_34) := ⟨_, rfl⟩
          replace H : (decimal_pieces_divide.l1 kj34 (IntKind.u64.wrap (Int.tdiv (1000000000 : Int) (IntKind.u64.wrap ((rd l1 (ji3)) + 1)))) t254 t226 (t226.length : Int) y257 (wrap64 (x11_2 - 1))) = some (r1, r2) := by first | (rw [hy257]; with_reducible exact H) | (have H2_ := (Option.bind_some _ _).symm.trans H; rw [hy257]; with_reducible exact H2_) | (have H2_ := (Option.bind_some _ _).symm.trans H; with_reducible exact H2_) | with_reducible exact H | (rw [hy257]; exact H) | exact H
          have Ny257 := Aside0.mk hy257
          clear hy257
          have H' := Aside0.mk H
          clear H
          go_wp2_with (first | (go_at_call 178; (with_reducible refine (decimal_pieces_take.calls kj34 (fun k_ => some k_ = (.slice (some ad245) x7_2.length co21 : Value).ownBlock) (.slice (some ad245) x7_2.length co21) x7_2 _ _ t226 x13_34 x11_2 false t254 w _ ?side1 ?side2 ?side3 ?side4 A51.out).mono ?_); (case side1 => apply_rules [HB.out, below_alloc, pw_below_drewN, below_drew1]); (case side2 => exact Kd.R_tight rfl HO_7.out); (case side3 => exact Kd.C_kept_own (HO_8.out) (fun k_ hk_ hs_ => (hk_.1) hs_)); (case side4 => exact (Kd.R_reads' HO_8.out).2.1); rintro e w64 ⟨rfl, hy0, hb, hkp⟩; replace HO_7 := Aside0.mk (Kd.R_reok rfl hy0 (fun k_ e_ => HO_7.out.1 k_ e_)); replace HO_8 := Aside0.mk (Kd.R_mono (ok' := fun k_ => some k_ ≠ (.slice (some ad245) x7_2.length co21 : Value).ownBlock ∧ some k_ ≠ (v233 : Value).ownBlock) (Kd.R_keptB (HO_8.out) hkp (fun k_ hk_ hs_ => (hk_.1) hs_)) (fun k_ hk_ => ⟨hk_.1.1, hk_.1.2⟩)); replace HO_10 := Aside0.mk (Kd.R_mono (ok' := fun k_ => some k_ ≠ (.slice (some ad245) x7_2.length co21 : Value).ownBlock ∧ some k_ ≠ (.slice (some ad247) t226.length co13 : Value).ownBlock) (Kd.R_keptB (HO_10.out) hkp (fun k_ hk_ hs_ => (hk_.1) hs_)) (fun k_ hk_ => ⟨hk_.1.1, hk_.1.2⟩)); replace HB := Aside0.mk (hb); (try clear hb); (try clear hkp); (try clear hy0); have p63 : 0 ≤ (x11_2 : Int) := of_decide_eq_true (by assumption); have q63 : (x11_2 : Int) < ((x10_2.length : Int) : Int) := of_decide_eq_true (by assumption); obtain ⟨go63, co63, eo63, gb63, gl63, cl63, HG63⟩ := Kd.R_form HO_10.out (by omega); (first | cases eo63 | (injection eo63 with ea_ en_ ec_; (first | subst ea_ | (injection ea_ with ea_; subst ea_)); subst ec_; clear en_)); have GB63 := Aside0.mk gb63; have GG63 := Aside0.mk HG63; clear gb63 gl63 HG63; obtain ⟨hx63_0, hf63_0⟩ := Kd.R_celln 0 HO_10.out (x11_2 : Int) p63 q63; replace p63 := eq_true p63; replace q63 := eq_true q63; obtain ⟨hy65_, hz65_⟩ := Kd.R_celln 0 HO_10.out (x11_2 : Int) (of_decide_eq_true (by assumption)) (of_decide_eq_true (by assumption)); have HP65 := Kd.R_putg HO_10.out (x11_2 : Int) x13_34) | ((with_reducible refine gate_store (t := 139) (p := 135) rfl ?_); (try (rw [drewN_self w64]; generalize hq_ : World.drewN w64 _ = w64; replace HO_7 := Aside0.mk (Kd.R_at hq_ HO_7.out); replace HO_8 := Aside0.mk (Kd.R_at hq_ HO_8.out); replace HO_10 := Aside0.mk (Kd.R_at hq_ HO_10.out); replace HB := Aside0.mk (below_at hq_ HB.out); clear hq_; (try (obtain ⟨hy65_, hz65_⟩ := Kd.R_celln 0 HO_10.out (x11_2 : Int) (of_decide_eq_true (by assumption)) (of_decide_eq_true (by assumption)))); (try (have HP65 := Kd.R_putg HO_10.out (x11_2 : Int) x13_34)))); refine store_event (t := 139) (p := 135) (v := ?vo_w66) (w1 := (w64.setCell ⟨go63, (x11_2 : Int).toNat, none⟩ (.int .u64 x13_34))) ?hg ?ho ?hn ?hr ?_; (case ho => rfl); (case hg => rfl); (case hn => rfl); (case hr => go_simp; try rfl); intro w66 hw; have hg : w64.grownBy w66 (some go63) := (by rw [hw]; exact HP65.2); have hp_ : Kd.R (Kd.int .u64) 139 w66 w.heap.size (fun k_ => some k_ ≠ (.slice (some ad245) x7_2.length co21 : Value).ownBlock ∧ some k_ ≠ (.slice (some ad247) t226.length co13 : Value).ownBlock) (.slice (some ⟨go63, 0, none⟩) x10_2.length co63) y257 := (by rw [hw, Ny257.out]; exact HP65.1); clear HP65; replace HO_7 := Aside0.mk (Kd.R_after (v := (.slice (some ⟨go63, 0, none⟩) x10_2.length co63)) (v1 := (.slice (some ⟨go63, 0, none⟩) x10_2.length co63)) (ok := (fun k_ => some k_ ≠ (.slice (some ad247) t226.length co13 : Value).ownBlock)) (by apply_rules [HO_7.out, Kd.R_alloc, Kd.R_drewN, Kd.R_drew]) hg (.inl rfl)); replace HO_8 := Aside0.mk (Kd.R_after (v := (.slice (some ⟨go63, 0, none⟩) x10_2.length co63)) (v1 := (.slice (some ⟨go63, 0, none⟩) x10_2.length co63)) (ok := (fun k_ => some k_ ≠ (.slice (some ad245) x7_2.length co21 : Value).ownBlock)) (by apply_rules [HO_8.out, Kd.R_alloc, Kd.R_drewN, Kd.R_drew]) hg (.inl rfl)); replace HO_10 := Aside0.mk (hp_); replace HB := Aside0.mk ((by rw [hw]; exact below_set (HB.out) GB63.out : Below w.heap.size w w66)); clear hg hw hp_))
          (try simp only [← hl7_2])
          go_roundg kj34
          case measure => have := HK1.out; have := HK2.out; have := HJ34.out; omega
          case rel => exact ⟨(t254), (y257), (wrap64 (x11_2 - 1)), (by first | rfl | (simp; done) | (simp [*]; done)), H', ⟨by have := HK1.out; have := HK2.out; have := HJ34.out; omega⟩, ⟨by (try simp only [hl7_2]); apply_rules [HO_7.out, Kd.R_alloc, Kd.R_drewN, Kd.R_drew]⟩, ⟨by (try simp only [hl7_2]); apply_rules [HO_8.out, Kd.R_alloc, Kd.R_drewN, Kd.R_drew]⟩, ⟨by (try simp only [hl7_2]); apply_rules [HO_10.out, Kd.R_alloc, Kd.R_drewN, Kd.R_drew]⟩, ⟨by apply_rules [HB.out, below_alloc, pw_below_drewN, below_drew1]⟩⟩
      ·rw [if_neg c24] at H
       have c24b0 : decide (0 ≤ x11_2) = false := decide_eq_false c24
       clear c24
       replace H := Option.bind_eq_some_iff.mp H
       obtain ⟨t235, A670, H⟩ := H
       try dsimp only at H
       have A67 := Aside0.mk A670
       clear A670
       replace H := Option.bind_eq_some_iff.mp H
       obtain ⟨⟨t238, t239⟩, A680, H⟩ := H
       try dsimp only at H
       have A68 := Aside0.mk A680
       clear A680
       replace H := Option.bind_eq_some_iff.mp H
       obtain ⟨t242, A690, H⟩ := H
       try dsimp only at H
       have A69 := Aside0.mk A690
       clear A690
       simp only [Option.some.injEq, Prod.mk.injEq] at H
       obtain ⟨rfl, rfl⟩ := H
       go_wp2_with (first | (go_at_call 173; (with_reducible refine (decimal_pieces_trim.calls k2 (fun k_ => some k_ = (.slice Ao21 x7_2.length co21 : Value).ownBlock) (.slice Ao21 x7_2.length co21) x7_2 t235 w _ ?side1 ?side2 A67.out).mono ?_); (case side1 => apply_rules [HB.out, below_alloc, pw_below_drewN, below_drew1]); (case side2 => exact Kd.R_tight rfl HO_7.out); rintro e w70 ⟨v236, rfl, ho0, hb, hkp⟩; have n0_ := Aside0.mk (Kd.R_mono (ok' := fun k_ => some k_ ≠ (v233 : Value).ownBlock ∧ some k_ ≠ (v236 : Value).ownBlock) (Kd.R_keptB (HO_8.out) hkp (fun k_ hk_ hs_ => (hk_.1) hs_)) (fun k_ hk_ => ⟨hk_.1.2, fun e_ => Or.elim (ho0.1 k_ e_.symm) (fun hs_ => hk_.2.1 hs_) (fun hn_ => Nat.not_le.2 hk_.2.2 hn_)⟩)); have n1_ := Aside0.mk (Kd.R_mono (ok' := fun k_ => some k_ ≠ (.slice Ao13 t226.length co13 : Value).ownBlock ∧ some k_ ≠ (v236 : Value).ownBlock) (Kd.R_keptB (HO_10.out) hkp (fun k_ hk_ hs_ => (hk_.1) hs_)) (fun k_ hk_ => ⟨hk_.1.2, fun e_ => Or.elim (ho0.1 k_ e_.symm) (fun hs_ => hk_.2.1 hs_) (fun hn_ => Nat.not_le.2 hk_.2.2 hn_)⟩)); have n2_ := Aside0.mk (Kd.R_mono (ok' := fun k_ => some k_ ≠ (.slice Ao13 t226.length co13 : Value).ownBlock ∧ some k_ ≠ (v233 : Value).ownBlock) ho0 (fun k_ hk_ => ⟨Or.elim hk_ (fun hs_ => fun e_ => (((HO_8.out).1 k_ e_.symm).1) hs_) (fun hn_ => (Kd.fresh' (Kd.R_lt (by apply_rules [HO_8.out, Kd.R_alloc, Kd.R_drewN, Kd.R_drew])) k_ hn_)), Or.elim hk_ (fun hs_ => fun e_ => (((HO_10.out).1 k_ e_.symm).1) hs_) (fun hn_ => (Kd.fresh' (Kd.R_lt (by apply_rules [HO_10.out, Kd.R_alloc, Kd.R_drewN, Kd.R_drew])) k_ hn_))⟩)); have n3_ := Aside0.mk (hb); clear HO_8; clear HO_10; clear HB; clear HO_7; have HO_8 := n0_; have HO_10 := n1_; have HO237 := n2_; have HB := n3_; clear n0_ n1_ n2_ n3_; (try clear hb); (try clear hkp); (try clear ho0); obtain ⟨Ao71, co71, eo71⟩ := Kd.R_slice HO237.out; subst eo71) | (go_at_call 224; (with_reducible refine (decimal_pieces_small.calls k2 _ _ t235 (IntKind.u64.wrap (Int.tdiv (1000000000 : Int) (IntKind.u64.wrap ((rd l1 (ji3)) + 1)))) t238 t239 _ ?side1 ?side2 A68.out).mono ?_); (case side1 => apply_rules [(Kd.R_reads' HO237.out).2.2, Kd.C_alloc, Kd.C_drewN, Kd.C_drew]); (case side2 => exact (Kd.R_reads' HO237.out).2.1); rintro e w72 ⟨v240, rfl, ho0, hb⟩; have n0_ := Aside0.mk (Kd.R_elder' (by apply_rules [HO_8.out, Kd.R_alloc, Kd.R_drewN, Kd.R_drew]) (Kd.R_base ho0) hb); have n1_ := Aside0.mk (Kd.R_elder' (by apply_rules [HO_10.out, Kd.R_alloc, Kd.R_drewN, Kd.R_drew]) (Kd.R_base ho0) hb); have n2_ := Aside0.mk (Kd.R_elder' (by apply_rules [HO237.out, Kd.R_alloc, Kd.R_drewN, Kd.R_drew]) (Kd.R_base ho0) hb); have n3_ := Aside0.mk (Kd.R_lower (Kd.R_new' (Kd.R_new' (Kd.R_new' ho0 (Kd.R_lt (by apply_rules [HO_8.out, Kd.R_alloc, Kd.R_drewN, Kd.R_drew]))) (Kd.R_lt (by apply_rules [HO_10.out, Kd.R_alloc, Kd.R_drewN, Kd.R_drew]))) (Kd.R_lt (by apply_rules [HO237.out, Kd.R_alloc, Kd.R_drewN, Kd.R_drew]))) (below_size (by apply_rules [HB.out, below_alloc, pw_below_drewN, below_drew1]))); have n4_ := Aside0.mk (below_step (by apply_rules [HB.out, below_alloc, pw_below_drewN, below_drew1]) hb); clear HO_8; clear HO_10; clear HO237; clear HB; have HO_8 := n0_; have HO_10 := n1_; have HO237 := n2_; have HO241 := n3_; have HB := n4_; clear n0_ n1_ n2_ n3_ n4_; (try clear hb); (try clear ho0); obtain ⟨Ao73, co73, eo73⟩ := Kd.R_slice HO_10.out; subst eo73) | (go_at_call 173; (with_reducible refine (decimal_pieces_trim.calls k2 (fun k_ => some k_ = (.slice Ao73 x10_2.length co73 : Value).ownBlock) (.slice Ao73 x10_2.length co73) x10_2 t242 w _ ?side1 ?side2 A69.out).mono ?_); (case side1 => apply_rules [HB.out, below_alloc, pw_below_drewN, below_drew1]); (case side2 => exact Kd.R_tight rfl HO_10.out); rintro e w74 ⟨v243, rfl, ho0, hb, hkp⟩; have n0_ := Aside0.mk (Kd.R_mono (ok' := fun k_ => some k_ ≠ (.slice Ao71 t235.length co71 : Value).ownBlock ∧ some k_ ≠ (v240 : Value).ownBlock ∧ some k_ ≠ (v243 : Value).ownBlock) (Kd.R_keptB (HO_8.out) hkp (fun k_ hk_ hs_ => (hk_.1.1) hs_)) (fun k_ hk_ => ⟨hk_.1.1.2, hk_.1.2, fun e_ => Or.elim (ho0.1 k_ e_.symm) (fun hs_ => hk_.2.1 hs_) (fun hn_ => Nat.not_le.2 hk_.2.2 hn_)⟩)); have n1_ := Aside0.mk (Kd.R_mono (ok' := fun k_ => some k_ ≠ (.slice Ao13 t226.length co13 : Value).ownBlock ∧ some k_ ≠ (v240 : Value).ownBlock ∧ some k_ ≠ (v243 : Value).ownBlock) (Kd.R_keptB (HO237.out) hkp (fun k_ hk_ hs_ => (hk_.1.2) hs_)) (fun k_ hk_ => ⟨hk_.1.1.1, hk_.1.2, fun e_ => Or.elim (ho0.1 k_ e_.symm) (fun hs_ => hk_.2.1 hs_) (fun hn_ => Nat.not_le.2 hk_.2.2 hn_)⟩)); have n2_ := Aside0.mk (Kd.R_mono (ok' := fun k_ => some k_ ≠ (.slice Ao13 t226.length co13 : Value).ownBlock ∧ some k_ ≠ (.slice Ao71 t235.length co71 : Value).ownBlock ∧ some k_ ≠ (v243 : Value).ownBlock) (Kd.R_keptB (HO241.out) hkp (fun k_ hk_ hs_ => (hk_.1.2) hs_)) (fun k_ hk_ => ⟨hk_.1.1.1.2, hk_.1.2, fun e_ => Or.elim (ho0.1 k_ e_.symm) (fun hs_ => hk_.2.1 hs_) (fun hn_ => Nat.not_le.2 hk_.2.2 hn_)⟩)); have n3_ := Aside0.mk (Kd.R_mono (ok' := fun k_ => some k_ ≠ (.slice Ao13 t226.length co13 : Value).ownBlock ∧ some k_ ≠ (.slice Ao71 t235.length co71 : Value).ownBlock ∧ some k_ ≠ (v240 : Value).ownBlock) ho0 (fun k_ hk_ => ⟨Or.elim hk_ (fun hs_ => fun e_ => (((HO_8.out).1 k_ e_.symm).1.1) hs_) (fun hn_ => (Kd.fresh' (Kd.R_lt (by apply_rules [HO_8.out, Kd.R_alloc, Kd.R_drewN, Kd.R_drew])) k_ hn_)), Or.elim hk_ (fun hs_ => fun e_ => (((HO237.out).1 k_ e_.symm).1.2) hs_) (fun hn_ => (Kd.fresh' (Kd.R_lt (by apply_rules [HO237.out, Kd.R_alloc, Kd.R_drewN, Kd.R_drew])) k_ hn_)), Or.elim hk_ (fun hs_ => fun e_ => (((HO241.out).1 k_ e_.symm).1.2) hs_) (fun hn_ => (Kd.fresh' (Kd.R_lt (by apply_rules [HO241.out, Kd.R_alloc, Kd.R_drewN, Kd.R_drew])) k_ hn_))⟩)); have n4_ := Aside0.mk (hb); clear HO_8; clear HO237; clear HO241; clear HB; clear HO_10; have HO_8 := n0_; have HO237 := n1_; have HO241 := n2_; have HO244 := n3_; have HB := n4_; clear n0_ n1_ n2_ n3_ n4_; (try clear hb); (try clear hkp); (try clear ho0)))
       go_ret2
       exact ⟨_, _, by first | rfl | (simp [errW_none, errW_some] <;> rfl) | (simp only [← hji3, ← hji18]; first | rfl | (simp [errW_none, errW_some] <;> rfl)) | (simp [*, errW_none, errW_some] <;> rfl), by (with_reducible repeat (first | apply Kd.R_alloc | apply Kd.R_drewN | apply Kd.R_drew)); exact Kd.R_mono HO244.out (fun _ hk => hk.2.2), by (with_reducible repeat (first | apply Kd.R_alloc | apply Kd.R_drewN | apply Kd.R_drew)); exact Kd.R_mono HO241.out (fun _ hk => hk.2.2), by apply_rules [HB.out, below_alloc, pw_below_drewN, below_drew1]⟩
end Go.Proofs.YtccebdpjdpjgnaaGreatDoor.P
