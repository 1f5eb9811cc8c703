/-
parts of the walks and of the plain laws: Pmonzosum PmonzoAdd PmonzoSub PmonzoPower PmonzoNeg PmonzoSign
-/
import Derived.Test.YtccebdpjdpjgnaaGreatDoorBH31
set_option linter.unusedVariables false
set_option linter.unusedSimpArgs false
section
namespace Go.Proofs.YtccebdpjdpjgnaaGreatDoor.P
open Go.RowKit Go.Proofs.YtccebdpjdpjgnaaGreatDoorW.PrintWords Go.Proofs.YtccebdpjdpjgnaaGreatDoorW.PrintLast Go.Proofs.YtccebdpjdpjgnaaGreatDoorW.PrintMore
attribute [local go_sem] max2_int min2_int max_two min_two max_three min_three max_four min_four
def monzo_sum.l0 : Nat → List Int → List Int → List Int → Int → List Int → Int → Int → Option (List Int × Int)
 | 0, _, _, _, _, _, _, _ => none
 | k + 1, x0, x1, x2, x3, x11, x22, x23 => if x23 < x22 then (if 0 ≤ x23 then (if x23 < (x1.length : Int) then (if x23 < (x2.length : Int) then (if x11.length < 17592186044416 then (monzo_sum.l0 k x0 x1 x2 x3 (x11 ++ [wrap64 ((rd x1 x23) + (wrap64 (x3 * (rd x2 x23))))]) x22 (wrap64 (x23 + 1))) else (none)) else (none)) else (none)) else (none)) else ((monzo_result.f k x0 x11).bind fun bt671 => (some (bt671.1, bt671.2)))
def monzo_sum.f (k : Nat) (l0 : List Int) (l1 : List Int) (l2 : List Int) (a3 : Int) : Option (List Int × Int) := (monzo_CheckAll.f k l0 (([l1, l2] : List (List Int)))).bind fun t665 => (if t665 = 0 then (monzo_sum.l0 k l0 l1 l2 a3 ([] : List Int) (l1.length : Int) 0) else (some (([] : List Int), t665)))
def monzo_Add.f (k : Nat) (l0 : List Int) (l1 : List Int) (l2 : List Int) : Option (List Int × Int) := (monzo_sum.f k l0 l1 l2 1).bind fun bt675 => (some (bt675.1, bt675.2))

def monzo_Power.l0 : Nat → List Int → Int → List Int → List Int → Int → Int → Option (List Int × Int)
 | 0, _, _, _, _, _, _ => none
 | k + 1, x0, x2, x9, x21, x22, x23 => if x23 < x22 then (if 0 ≤ x23 then (if x23 < (x21.length : Int) then (if x9.length < 17592186044416 then (monzo_Power.l0 k x0 x2 (x9 ++ [wrap64 (x2 * (rd x21 x23))]) x21 x22 (wrap64 (x23 + 1))) else (none)) else (none)) else (none)) else ((monzo_result.f k x0 x9).bind fun bt688 => (some (bt688.1, bt688.2)))
def monzo_Power.f (k : Nat) (l0 : List Int) (l1 : List Int) (a2 : Int) : Option (List Int × Int) := (monzo_Check.f k l0 l1).bind fun t683 => (if t683 = 0 then (monzo_Power.l0 k l0 (mn (mx a2 (-1001)) 1001) ([] : List Int) l1 (l1.length : Int) 0) else (some (([] : List Int), t683)))
set_option maxHeartbeats 8000000 in
set_option maxRecDepth 100000 in
theorem monzo_Power.calls (k : Nat) (A0 : Option Addr) (c0 : Nat) (l0 : List Int) (A1 : Option Addr) (c1 : Nat) (l1 : List Int) (a2 : Int) (r1 : List Int) (r2 : Int) (w : World) (hr0 : Kd.C (Kd.int .i64) w A0 l0.length l0) (hc0 : l0.length ≤ c0) (hr1 : Kd.C (Kd.int .i64) w A1 l1.length l1) (hc1 : l1.length ≤ c1) (h : monzo_Power.f k l0 l1 a2 = some (r1, r2)) :
  Calls Tryz.prog 50 #[.slice A0 l0.length c0, .slice A1 l1.length c1, .int .i64 a2] w fun e w' => ∃ v0_ : Value, e = .returned (.tuple #[v0_, .int .i64 r2]) ∧ Kd.V (Kd.int .i64) 3 w' w.heap.size (fun k_ => (w.heap.size ≤ k_)) v0_ r1 ∧ Below w.heap.size w w' := by
 have HR0 := Aside0.mk hr0
 have HC0 := Aside0.mk hc0
 clear hr0 hc0
 have HR1 := Aside0.mk hr1
 have HC1 := Aside0.mk hc1
 clear hr1 hc1
 have HB := Aside0.mk (Below.refl w.heap.size w)
 have H : ((monzo_Check.f k l0 l1).bind fun t683 => (if t683 = 0 then (monzo_Power.l0 k l0 (mn (mx a2 (-1001)) 1001) ([] : List Int) l1 (l1.length : Int) 0) else (some (([] : List Int), t683)))) = some (r1, r2) := h
 clear h
 replace H := Option.bind_eq_some_iff.mp H
 obtain ⟨t683, A40, H⟩ := H
 try dsimp only at H
 have A4 := Aside0.mk A40
 clear A40
 by_cases c5 : t683 = 0
 ·rw [if_pos c5] at H
  have c5b0 : (t683 == 0) = true := beq_iff_eq.mpr c5
  have c5b1 : (t683 != 0) = false := bne_eq_false_iff_eq.mpr c5
  clear c5
  obtain ⟨ji6, hji6⟩ : ∃ j_ : Int, (mx a2 (-1001)) = j_ := ⟨_, rfl⟩
  replace H : (monzo_Power.l0 k l0 (mn (ji6) 1001) ([] : List Int) l1 (l1.length : Int) 0) = some (r1, r2) := by first | (rw [hji6] at H; exact H) | (simp only [hji6] at H ⊢; exact H)
  (try rw [hji6] at A4)
  have hji6_ : (if a2 < (-1001) then (-1001) else a2) = ji6 := hji6
  obtain ⟨ji7, hji7⟩ : ∃ j_ : Int, (mn (ji6) 1001) = j_ := ⟨_, rfl⟩
  replace H : (monzo_Power.l0 k l0 ji7 ([] : List Int) l1 (l1.length : Int) 0) = some (r1, r2) := by first | (rw [hji7] at H; exact H) | (simp only [hji7] at H ⊢; exact H)
  (try rw [hji7] at A4)
  have hji7_ : (if 1001 < (ji6) then 1001 else (ji6)) = ji7 := hji7
  have H' := Aside0.mk H
  clear H
  go_enter Tryz.func50, Tryz.ntmps50
  go_wp2_with (first | ((with_reducible refine gate_callee (f := 27) rfl ?_); refine goesK (some 14) Tryz.func27 [.slice A0 l0.length c0, .slice A1 l1.length c1] rfl rfl ?_; (with_reducible refine (monzo_Check.calls k _ _ l0 (fun k_ => k_ < w.heap.size) _ _ l1 t683 _ ?side1 ?side2 ?side3 A4.out).mono ?_); (case side1 => apply_rules [HR0.out, Kd.C_alloc, Kd.C_drewN, Kd.C_drew]); (case side2 => exact HC0.out); (case side3 => exact Kd.V_mk HC1.out (Kd.F_below (Kd.C_F (Kd.heap_int .i64) HR1.out) (by apply_rules [HB.out, below_alloc, pw_below_drewN, below_drew1]))); rintro e w8 ⟨rfl, hb⟩; refine ⟨_, rfl, ?_⟩; replace HB := Aside0.mk (below_step (by apply_rules [HB.out, below_alloc, pw_below_drewN, below_drew1]) hb); (try clear hb)))
  go_loopg [9, 23] k (fun kq v9 v23 w' => ∃ (x9_1 : List Int) (x23_1 : Int), v23 = .int .i64 x23_1 ∧ Aside0 (monzo_Power.l0 kq l0 ji7 x9_1 l1 (l1.length : Int) x23_1 = some (r1, r2)) ∧ Aside0 (kq ≤ k) ∧ Aside0 (Kd.R (Kd.int .i64) 3 w' w.heap.size (fun k_ => (w.heap.size ≤ k_)) v9 x9_1) ∧ Aside0 (Below w.heap.size w w'))
  case atStart => exact ⟨(([] : List Int)), (0), (by first | rfl | (simp; done) | (simp [*]; done)), H', ⟨Nat.le_refl _⟩, ⟨by first | exact Kd.R_nil _ _ _ _ _ | exact Kd.N_nil _ _ _ _ _ | exact Kd.V_nil _ _ _ _ _ | exact Kd.Q_nil _ _ _ _ _ | exact Kd.S_nil _ _ _ _ _⟩, ⟨by apply_rules [HB.out, below_alloc, pw_below_drewN, below_drew1]⟩⟩
  case round =>
   clear H'
   obtain ⟨x9_1, x23_1, rfl, HA, HK1, HO_9, HB⟩ := hrel
   cases gk with
   | zero => exact absurd HA.out (by simp [monzo_Power.l0])
   | succ k1 =>
    have H := HA.out
    clear HA
    simp only [monzo_Power.l0] at H
    by_cases c9 : x23_1 < (l1.length : Int)
    ·rw [if_pos c9] at H
     have c9b0 : decide (x23_1 < (l1.length : Int)) = true := decide_eq_true c9
     clear c9
     by_cases c10 : 0 ≤ x23_1
     case neg => rw [if_neg c10] at H; exact absurd H (by simp)
     rw [if_pos c10] at H
     have c10b0 : decide (0 ≤ x23_1) = true := decide_eq_true c10
     clear c10
     by_cases c11 : x23_1 < (l1.length : Int)
     case neg => rw [if_neg c11] at H; exact absurd H (by simp)
     rw [if_pos c11] at H
     have c11b0 : decide (x23_1 < (l1.length : Int)) = true := decide_eq_true c11
     clear c11
     by_cases c12 : x9_1.length < 17592186044416
     case neg => rw [if_neg c12] at H; exact absurd H (by simp)
     rw [if_pos c12] at H
     have LMc12 := Aside0.mk c12
     clear c12
     obtain ⟨y685, hy685⟩ : ∃ y_ : List Int, y_ = (x9_1 ++ [wrap64 (ji7 * (rd l1 x23_1))]) := ⟨_, rfl⟩
     replace H : (monzo_Power.l0 k1 l0 ji7 y685 l1 (l1.length : Int) (wrap64 (x23_1 + 1))) = some (r1, r2) := by first | (rw [hy685]; with_reducible exact H) | (have H2_ := (Option.bind_some _ _).symm.trans H; rw [hy685]; with_reducible exact H2_) | (have H2_ := (Option.bind_some _ _).symm.trans H; with_reducible exact H2_) | with_reducible exact H | (rw [hy685]; exact H) | exact H
     have Ny685 := Aside0.mk hy685
     clear hy685
     have H' := Aside0.mk H
     clear H
     have p684 : 0 ≤ (x23_1 : Int) := of_decide_eq_true (by assumption)
     have q684 : x23_1 < (l1.length : Int) := of_decide_eq_true (by assumption)
     obtain ⟨ad684, e684, hx684_0⟩ := Kd.at_int HR1.out x23_1 p684 q684
     cases e684
     replace hx684_0 := (HB.out.cell (World.block_lt_of_cell? w _ hx684_0)).trans hx684_0
     replace p684 := eq_true p684
     replace q684 := eq_true q684
     go_wp2_with (first | ((with_reducible refine gate_builtin (b := .append) (xs := #[.tmp 27, .tmp 31]) rfl ?_); at_builtin; refine Kd.R_append (Kd.int .i64) (w0 := w) w.heap.size rfl (.tmp 27) (.tmp 31) 24 3 (.int .i64 0) 8 rfl Tryz.underlying24 info3 rfl (by decide) (by omega) u9 x9_1 (wrap64 (ji7 * (rd l1 x23_1))) [.int .i64 (wrap64 (ji7 * (rd l1 x23_1)))] (fun k_ => (w.heap.size ≤ k_)) (fun _ => False) rfl rfl ?aP (fun _ hk => hk.elim) ?aF ?aO ?aB ?aS ?aL ?_; (case aP => exact rfl); (case aB => exact (by apply_rules [HB.out, below_alloc, pw_below_drewN, below_drew1])); (case aF => exact (fun k_ hk => (Nat.le_trans (below_size (by apply_rules [HB.out, below_alloc, pw_below_drewN, below_drew1])) hk))); (case aO => exact (by apply_rules [HO_9.out, Kd.R_alloc, Kd.R_drewN, Kd.R_drew])); (case aS => exact (below_size (by apply_rules [HB.out, below_alloc, pw_below_drewN, below_drew1]))); (case aL => have := LMc12.out; omega); intro v686 w13 ho hb hg hat; rw [← Ny685.out] at ho; replace HB := Aside0.mk (hb); have HO687 := Aside0.mk (ho); clear HO_9; clear ho hb hg hat))
     go_roundg k1
     case measure => have := HK1.out; omega
     case rel => exact ⟨(y685), (wrap64 (x23_1 + 1)), (by first | rfl | (simp; done) | (simp [*]; done)), H', ⟨by have := HK1.out; omega⟩, ⟨by apply_rules [HO687.out, Kd.R_alloc, Kd.R_drewN, Kd.R_drew]⟩, ⟨by apply_rules [HB.out, below_alloc, pw_below_drewN, below_drew1]⟩⟩
    ·rw [if_neg c9] at H
     have c9b0 : decide (x23_1 < (l1.length : Int)) = false := decide_eq_false c9
     clear c9
     replace H := Option.bind_eq_some_iff.mp H
     obtain ⟨⟨t688, t691⟩, A140, H⟩ := H
     try dsimp only at H
     have A14 := Aside0.mk A140
     clear A140
     simp only [Option.some.injEq, Prod.mk.injEq] at H
     obtain ⟨rfl, rfl⟩ := H
     obtain ⟨Ao15, co15, eo15⟩ := Kd.R_slice HO_9.out
     subst eo15
     go_wp2_with (first | ((with_reducible refine gate_callee (f := 101) rfl ?_); refine goesK (some 36) Tryz.func101 [.slice A0 l0.length c0, .slice Ao15 x9_1.length co15] rfl rfl ?_; (with_reducible refine (monzo_result.calls k1 _ _ l0 (fun k_ => some k_ = (.slice Ao15 x9_1.length co15 : Value).ownBlock) _ _ x9_1 t688 t691 _ ?side1 ?side2 ?side3 A14.out).mono ?_); (case side1 => apply_rules [(Kd.C_below HR0.out HB.out), Kd.C_alloc, Kd.C_drewN, Kd.C_drew]); (case side2 => exact HC0.out); (case side3 => exact Kd.R_V (Kd.R_tight rfl (HO_9.out))); rintro e w16 ⟨v689, rfl, ho0, hb⟩; refine ⟨_, rfl, ?_⟩; have n0_ := Aside0.mk (Kd.R_below (by apply_rules [HO_9.out, Kd.R_alloc, Kd.R_drewN, Kd.R_drew]) hb); have n1_ := Aside0.mk (Kd.V_lower (Kd.V_mono (ok' := fun k_ => (w.heap.size ≤ k_)) ho0 (fun k_ hk_ => Or.elim hk_ (fun hs_ => ((HO_9.out).1 k_ hs_.symm)) (fun hn_ => (Nat.le_trans (below_size (by apply_rules [HB.out, below_alloc, pw_below_drewN, below_drew1])) hn_)))) (below_size (by apply_rules [HB.out, below_alloc, pw_below_drewN, below_drew1]))); have n2_ := Aside0.mk (below_step (by apply_rules [HB.out, below_alloc, pw_below_drewN, below_drew1]) hb); clear HO_9; clear HB; have HO_9 := n0_; have HO690 := n1_; have HB := n2_; clear n0_ n1_ n2_; (try clear hb); (try clear ho0)))
     go_ret2
     exact ⟨_, by first | rfl | (simp [errW_none, errW_some] <;> rfl) | (simp only [← hji6, ← hji7]; first | rfl | (simp [errW_none, errW_some] <;> rfl)) | (simp [*, errW_none, errW_some] <;> rfl), by (with_reducible repeat (first | apply Kd.V_alloc | apply Kd.V_drewN | apply Kd.V_drew)); exact HO690.out, by apply_rules [HB.out, below_alloc, pw_below_drewN, below_drew1]⟩
 ·rw [if_neg c5] at H
  have c5b0 : (t683 == 0) = false := beq_eq_false_iff_ne.mpr c5
  have c5b1 : (t683 != 0) = true := bne_iff_ne.mpr c5
  simp only [Option.some.injEq, Prod.mk.injEq] at H
  obtain ⟨rfl, rfl⟩ := H
  go_enter Tryz.func50, Tryz.ntmps50
  go_wp2_with (first | ((with_reducible refine gate_callee (f := 27) rfl ?_); refine goesK (some 14) Tryz.func27 [.slice A0 l0.length c0, .slice A1 l1.length c1] rfl rfl ?_; (with_reducible refine (monzo_Check.calls k _ _ l0 (fun k_ => k_ < w.heap.size) _ _ l1 t683 _ ?side1 ?side2 ?side3 A4.out).mono ?_); (case side1 => apply_rules [HR0.out, Kd.C_alloc, Kd.C_drewN, Kd.C_drew]); (case side2 => exact HC0.out); (case side3 => exact Kd.V_mk HC1.out (Kd.F_below (Kd.C_F (Kd.heap_int .i64) HR1.out) (by apply_rules [HB.out, below_alloc, pw_below_drewN, below_drew1]))); rintro e w17 ⟨rfl, hb⟩; refine ⟨_, rfl, ?_⟩; replace HB := Aside0.mk (below_step (by apply_rules [HB.out, below_alloc, pw_below_drewN, below_drew1]) hb); (try clear hb)))
  go_ret2
  exact ⟨(.slice none 0 0), by first | rfl | simp [*], Kd.R_V (base := 0) (ok := fun k_ => w.heap.size ≤ k_) (by first | exact Kd.R_nil _ _ _ _ _ | exact Kd.N_nil _ _ _ _ _ | exact Kd.V_nil _ _ _ _ _ | exact Kd.Q_nil _ _ _ _ _ | exact Kd.S_nil _ _ _ _ _), by apply_rules [HB.out, below_alloc, pw_below_drewN, below_drew1]⟩
def monzo_Neg.f (k : Nat) (l0 : List Int) (l1 : List Int) : Option (List Int × Int) := (monzo_Power.f k l0 l1 (-1)).bind fun bt692 => (some (bt692.1, bt692.2))
set_option maxHeartbeats 8000000 in
set_option maxRecDepth 100000 in
theorem monzo_Neg.calls (k : Nat) (A0 : Option Addr) (c0 : Nat) (l0 : List Int) (A1 : Option Addr) (c1 : Nat) (l1 : List Int) (r1 : List Int) (r2 : Int) (w : World) (hr0 : Kd.C (Kd.int .i64) w A0 l0.length l0) (hc0 : l0.length ≤ c0) (hr1 : Kd.C (Kd.int .i64) w A1 l1.length l1) (hc1 : l1.length ≤ c1) (h : monzo_Neg.f k l0 l1 = some (r1, r2)) :
  Calls Tryz.prog 49 #[.slice A0 l0.length c0, .slice A1 l1.length c1] w fun e w' => ∃ v0_ : Value, e = .returned (.tuple #[v0_, .int .i64 r2]) ∧ Kd.V (Kd.int .i64) 3 w' w.heap.size (fun k_ => (w.heap.size ≤ k_)) v0_ r1 ∧ Below w.heap.size w w' := by
 have HR0 := Aside0.mk hr0
 have HC0 := Aside0.mk hc0
 clear hr0 hc0
 have HR1 := Aside0.mk hr1
 have HC1 := Aside0.mk hc1
 clear hr1 hc1
 have HB := Aside0.mk (Below.refl w.heap.size w)
 have H : ((monzo_Power.f k l0 l1 (-1)).bind fun bt692 => (some (bt692.1, bt692.2))) = some (r1, r2) := h
 clear h
 replace H := Option.bind_eq_some_iff.mp H
 obtain ⟨⟨t692, t695⟩, A30, H⟩ := H
 try dsimp only at H
 have A3 := Aside0.mk A30
 clear A30
 simp only [Option.some.injEq, Prod.mk.injEq] at H
 obtain ⟨rfl, rfl⟩ := H
 go_enter Tryz.func49, Tryz.ntmps49
 go_wp2_with (first | ((with_reducible refine gate_callee (f := 50) rfl ?_); refine goesK (some 8) Tryz.func50 [.slice A0 l0.length c0, .slice A1 l1.length c1, .int .i64 (-1)] rfl rfl ?_; (with_reducible refine (monzo_Power.calls k _ _ l0 _ _ l1 (-1) t692 t695 _ ?side1 ?side2 ?side3 ?side4 A3.out).mono ?_); (case side1 => apply_rules [HR0.out, Kd.C_alloc, Kd.C_drewN, Kd.C_drew]); (case side2 => exact HC0.out); (case side3 => apply_rules [HR1.out, Kd.C_alloc, Kd.C_drewN, Kd.C_drew]); (case side4 => exact HC1.out); rintro e w4 ⟨v693, rfl, ho0, hb⟩; refine ⟨_, rfl, ?_⟩; have HO694 := Aside0.mk (Kd.V_lower (Kd.V_mono (ok' := fun k_ => (w.heap.size ≤ k_)) ho0 (fun k_ hk_ => (Nat.le_trans (below_size (by apply_rules [HB.out, below_alloc, pw_below_drewN, below_drew1])) hk_))) (below_size (by apply_rules [HB.out, below_alloc, pw_below_drewN, below_drew1]))); replace HB := Aside0.mk (below_step (by apply_rules [HB.out, below_alloc, pw_below_drewN, below_drew1]) hb); (try clear hb); (try clear ho0)))
 go_ret2
 exact ⟨_, by first | rfl | simp [*], by (with_reducible repeat (first | apply Kd.V_alloc | apply Kd.V_drewN | apply Kd.V_drew)); exact HO694.out, by apply_rules [HB.out, below_alloc, pw_below_drewN, below_drew1]⟩

end Go.Proofs.YtccebdpjdpjgnaaGreatDoor.P
end
