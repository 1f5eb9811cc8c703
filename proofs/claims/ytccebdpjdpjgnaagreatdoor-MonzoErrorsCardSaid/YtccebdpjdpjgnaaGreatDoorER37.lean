/-
parts of the walks and of the plain laws: Pmonzosum PmonzoAdd PmonzoSub PmonzoPower PmonzoNeg PmonzoSign
-/
import Derived.Test.YtccebdpjdpjgnaaGreatDoorER26
import Derived.Test.YtccebdpjdpjgnaaGreatDoorER32
set_option linter.unusedVariables false
set_option linter.unusedSimpArgs false
section
namespace Go.Proofs.YtccebdpjdpjgnaaGreatDoor.P
open Go.RowKit Go.Proofs.YtccebdpjdpjgnaaGreatDoorW.PrintWords Go.Proofs.YtccebdpjdpjgnaaGreatDoorW.PrintLast Go.Proofs.YtccebdpjdpjgnaaGreatDoorW.PrintMore
attribute [local go_sem] max2_int min2_int max_two min_two max_three min_three max_four min_four
def monzo_sum.l0 : Nat → List Int → List Int → List Int → Int → List Int → Int → Int → Option (List Int × Int)
 | 0, _, _, _, _, _, _, _ => none
 | k + 1, x0, x1, x2, x3, x11, x22, x23 => if x23 < x22 then (if 0 ≤ x23 then (if x23 < (x1.length : Int) then (if x23 < (x2.length : Int) then (if x11.length < 17592186044416 then (monzo_sum.l0 k x0 x1 x2 x3 (x11 ++ [wrap64 ((rd x1 x23) + (wrap64 (x3 * (rd x2 x23))))]) x22 (wrap64 (x23 + 1))) else (none)) else (none)) else (none)) else (none)) else ((monzo_result.f k x0 x11).bind fun bt542 => (some (bt542.1, bt542.2)))
def monzo_sum.f (k : Nat) (l0 : List Int) (l1 : List Int) (l2 : List Int) (a3 : Int) : Option (List Int × Int) := (monzo_CheckAll.f k l0 (([l1, l2] : List (List Int)))).bind fun t536 => (if t536 = 0 then (monzo_sum.l0 k l0 l1 l2 a3 ([] : List Int) (l1.length : Int) 0) else (some (([] : List Int), t536)))
def monzo_sum.T8 : Bool × List (List Nat × List Nat) := (true, [([], []), ([], []), ([], []), ([1, 2], [1, 2]), ([3], [3]), ([], []), ([], []), ([], []), ([6, 7], [6, 7]), ([8], [8]), ([5, 9], [5, 9]), ([4, 10], [4, 10]), ([11], [11]), ([0, 12], [0, 12]), ([13, 13, 0, 1, 2, 3, 4, 5, 6, 7, 8, 9, 10, 11, 12, 13], [0, 13])])
def monzo_sum.B8 : List Nat := [0, 0, 0, 6, 14, 0, 0, 0, 192, 448, 992, 2046, 4094, 8191, 16383]
theorem monzo_sum.tab8 : rtab .any (opsOf Tryz.f115 8) = monzo_sum.T8 := by kernel_rfl
theorem monzo_sum.bits8 : waitsOk monzo_sum.T8.2 monzo_sum.B8 = true := by kernel_rfl
set_option maxHeartbeats 8000000 in
set_option maxRecDepth 100000 in
theorem monzo_sum.calls (k : Nat) (A0 : Option Addr) (c0 : Nat) (l0 : List Int) (P1_ : Nat → Prop) (A1 : Option Addr) (c1 : Nat) (l1 : List Int) (P2_ : Nat → Prop) (A2 : Option Addr) (c2 : Nat) (l2 : List Int) (a3 : Int) (r1 : List Int) (r2 : Int) (w : World) (hr0 : Kd.C (Kd.int .i64) w A0 l0.length l0) (hc0 : l0.length ≤ c0) (hs1 : Kd.V (Kd.int .i64) 3 w w.heap.size (fun k_ => P1_ k_) (.slice A1 l1.length c1) l1) (hs2 : Kd.V (Kd.int .i64) 3 w w.heap.size (fun k_ => P2_ k_) (.slice A2 l2.length c2) l2) (h : monzo_sum.f k l0 l1 l2 a3 = some (r1, r2)) :
  Calls Tryz.prog 115 #[.slice A0 l0.length c0, .slice A1 l1.length c1, .slice A2 l2.length c2, .int .i64 a3] w fun e w' => ∃ v0_ : Value, e = .returned (.tuple #[v0_, .int .i64 r2]) ∧ Kd.V (Kd.int .i64) 3 w' w.heap.size (fun k_ => ((P1_ k_ ∨ P2_ k_) ∨ w.heap.size ≤ k_)) v0_ r1 ∧ Below w.heap.size w w' := by
 have HR0 := Aside0.mk hr0
 have HC0 := Aside0.mk hc0
 clear hr0 hc0
 have HO1 := Aside0.mk (show Kd.V (Kd.int .i64) 3 w w.heap.size (fun k_ => ((P1_ k_ ∨ P2_ k_) ∨ w.heap.size ≤ k_)) (.slice A1 l1.length c1) l1 from Kd.V_mono hs1 (fun k_ hk => .inl (.inl hk)))
 have HO2 := Aside0.mk (show Kd.V (Kd.int .i64) 3 w w.heap.size (fun k_ => ((P1_ k_ ∨ P2_ k_) ∨ w.heap.size ≤ k_)) (.slice A2 l2.length c2) l2 from Kd.V_mono hs2 (fun k_ hk => .inl (.inr hk)))
 have HB := Aside0.mk (Below.refl w.heap.size w)
 have H : ((monzo_CheckAll.f k l0 (([l1, l2] : List (List Int)))).bind fun t536 => (if t536 = 0 then (monzo_sum.l0 k l0 l1 l2 a3 ([] : List Int) (l1.length : Int) 0) else (some (([] : List Int), t536)))) = some (r1, r2) := h
 clear h
 obtain ⟨y533, hy533⟩ : ∃ y_ : List (List Int), y_ = (([l1, l2] : List (List Int))) := ⟨_, rfl⟩
 replace H : ((monzo_CheckAll.f k l0 y533).bind fun t536 => (if t536 = 0 then (monzo_sum.l0 k l0 l1 l2 a3 ([] : List Int) (l1.length : Int) 0) else (some (([] : List Int), t536)))) = some (r1, r2) := by first | (rw [hy533]; with_reducible exact H) | (have H2_ := (Option.bind_some _ _).symm.trans H; rw [hy533]; with_reducible exact H2_) | (have H2_ := (Option.bind_some _ _).symm.trans H; with_reducible exact H2_) | with_reducible exact H | (rw [hy533]; exact H) | exact H
 have Ny533 := Aside0.mk hy533
 clear hy533
 replace H := Option.bind_eq_some_iff.mp H
 obtain ⟨t536, A50, H⟩ := H
 try dsimp only at H
 have A5 := Aside0.mk A50
 clear A50
 by_cases c6 : t536 = 0
 ·rw [if_pos c6] at H
  have c6b0 : (t536 == 0) = true := beq_iff_eq.mpr c6
  have c6b1 : (t536 != 0) = false := bne_eq_false_iff_eq.mpr c6
  clear c6
  have H' := Aside0.mk H
  clear H
  go_enter Tryz.func115, Tryz.ntmps115
  go_wp2_with (first | ((with_reducible refine gate_dst (N := 16) rfl ?_); refine Kd.N_lit (Kd.slice 3 (Kd.int .i64)) _ 24 ?hg (N' := 16) ?hd (xs := ([l1, l2] : List (List Int))) (inner := [.slice A1 l1.length c1, .slice A2 l2.length c2]) (ok := (fun k_ => ((P1_ k_ ∨ P2_ k_) ∨ w.heap.size ≤ k_))) (okp := (fun k_ => ((P1_ k_ ∨ P2_ k_) ∨ w.heap.size ≤ k_))) ?hr ?hp (fun _ hk => hk) ((show ∀ k_, w.heap.size ≤ k_ → (fun k_ => ((P1_ k_ ∨ P2_ k_) ∨ w.heap.size ≤ k_)) k_ from fun k_ hk => (.inr (Nat.le_trans (below_size (by apply_rules [HB.out, below_alloc, pw_below_drewN, below_drew1])) hk))) _ (Nat.le_refl _)) (Below.refl _ _) (Nat.le_refl _) (by simp) ?_; (case hd => rfl); (case hg => rfl); (case hr => go_simp; try rfl); (case hp => exact (Reps.one (show Kd.FK (Kd.slice 3 (Kd.int .i64)) _ _ l1 [.slice A1 l1.length c1] from (Kd.FK_slice_mk (Kd.V_reads' (Kd.V_mono (ok' := (fun k_ => ((P1_ k_ ∨ P2_ k_) ∨ w.heap.size ≤ k_))) (HO1.out) (fun k_ hk => hk))).2.1 (Kd.V_F (Kd.V_mono (ok' := (fun k_ => ((P1_ k_ ∨ P2_ k_) ∨ w.heap.size ≤ k_))) (HO1.out) (fun k_ hk => hk))))) (Reps.one (show Kd.FK (Kd.slice 3 (Kd.int .i64)) _ _ l2 [.slice A2 l2.length c2] from (Kd.FK_slice_mk (Kd.V_reads' (Kd.V_mono (ok' := (fun k_ => ((P1_ k_ ∨ P2_ k_) ∨ w.heap.size ≤ k_))) (HO2.out) (fun k_ hk => hk))).2.1 (Kd.V_F (Kd.V_mono (ok' := (fun k_ => ((P1_ k_ ∨ P2_ k_) ∨ w.heap.size ≤ k_))) (HO2.out) (fun k_ hk => hk))))) (Reps.none _ _)))); intro v534 w7 ho8 hb hg_ hnew_; clear hg_ hnew_; (first | rw [← Ny533.out] at ho8 | (simp only [Int.reduceToNat] at ho8; rw [← Ny533.out] at ho8)); replace HO1 := Aside0.mk (Kd.V_elder' (by (with_reducible repeat (first | apply Kd.V_alloc | apply Kd.V_drewN | apply Kd.V_drew)); exact HO1.out) (Kd.N_base ho8) hb); replace HO2 := Aside0.mk (Kd.V_elder' (by (with_reducible repeat (first | apply Kd.V_alloc | apply Kd.V_drewN | apply Kd.V_drew)); exact HO2.out) (Kd.N_base ho8) hb); have HO535 := Aside0.mk (Kd.N_lower ho8 (below_size (by apply_rules [HB.out, below_alloc, pw_below_drewN, below_drew1]))); replace HB := Aside0.mk (below_step (by apply_rules [HB.out, below_alloc, pw_below_drewN, below_drew1]) hb); clear hb ho8; obtain ⟨Ao9, co9, eo9⟩ := Kd.N_slice HO535.out; subst eo9) | ((with_reducible refine gate_callee (f := 28) rfl ?_); refine goesK (some 17) Tryz.func28 [.slice A0 l0.length c0, .slice Ao9 y533.length co9] rfl rfl ?_; (with_reducible refine (monzo_CheckAll.calls k _ _ l0 _ _ y533 t536 _ ?side1 ?side2 ?side3 ?side4 A5.out).mono ?_); (case side1 => apply_rules [(Kd.C_below HR0.out HB.out), Kd.C_alloc, Kd.C_drewN, Kd.C_drew]); (case side2 => exact HC0.out); (case side3 => apply_rules [(Kd.N_reads' HO535.out).2.2, Kd.C_alloc, Kd.C_drewN, Kd.C_drew]); (case side4 => exact (Kd.N_reads' HO535.out).2.1); rintro e w' ⟨rfl, ⟨nd, rfl⟩⟩; refine ⟨_, rfl, ?_⟩))
  go_loopg [11, 23] k (fun kq v11 v23 w' => ∃ (x11_1 : List Int) (x23_1 : Int), v23 = .int .i64 x23_1 ∧ Aside0 (monzo_sum.l0 kq l0 l1 l2 a3 x11_1 (l1.length : Int) x23_1 = some (r1, r2)) ∧ Aside0 (kq ≤ k) ∧ Aside0 (Kd.V (Kd.int .i64) 3 w' w.heap.size (fun k_ => ((P1_ k_ ∨ P2_ k_) ∨ w.heap.size ≤ k_) ∧ some k_ ≠ (v11 : Value).ownBlock) (.slice A1 l1.length c1) l1) ∧ Aside0 (Kd.V (Kd.int .i64) 3 w' w.heap.size (fun k_ => ((P1_ k_ ∨ P2_ k_) ∨ w.heap.size ≤ k_) ∧ some k_ ≠ (v11 : Value).ownBlock) (.slice A2 l2.length c2) l2) ∧ Aside0 (Kd.R (Kd.int .i64) 3 w' w.heap.size (fun k_ => (w.heap.size ≤ k_)) v11 x11_1) ∧ Aside0 (Below w.heap.size w w'))
  case atStart => exact ⟨(([] : List Int)), (0), (by first | rfl | (simp; done) | (simp [*]; done)), H', ⟨Nat.le_refl _⟩, ⟨by (with_reducible repeat (first | apply Kd.V_alloc | apply Kd.V_drewN | apply Kd.V_drew)); exact Kd.V_mono HO1.out (fun _ hk => ⟨hk.1, (by simp [Value.ownBlock])⟩)⟩, ⟨by (with_reducible repeat (first | apply Kd.V_alloc | apply Kd.V_drewN | apply Kd.V_drew)); exact Kd.V_mono HO2.out (fun _ hk => ⟨hk.1, (by simp [Value.ownBlock])⟩)⟩, ⟨by first | exact Kd.R_nil _ _ _ _ _ | exact Kd.N_nil _ _ _ _ _ | exact Kd.V_nil _ _ _ _ _ | exact Kd.Q_nil _ _ _ _ _ | exact Kd.S_nil _ _ _ _ _⟩, ⟨by apply_rules [HB.out, below_alloc, pw_below_drewN, below_drew1]⟩⟩
  case round =>
   clear H'
   obtain ⟨x11_1, x23_1, rfl, HA, HK1, HO_1, HO_2, HO_11, HB⟩ := hrel
   cases gk with
   | zero => exact absurd HA.out (by simp [monzo_sum.l0])
   | succ k1 =>
    have H := HA.out
    clear HA
    simp only [monzo_sum.l0] at H
    by_cases c10 : x23_1 < (l1.length : Int)
    ·rw [if_pos c10] at H
     have c10b0 : decide (x23_1 < (l1.length : Int)) = true := decide_eq_true c10
     clear c10
     by_cases c11 : 0 ≤ x23_1
     case neg => rw [if_neg c11] at H; exact absurd H (by simp)
     rw [if_pos c11] at H
     have c11b0 : decide (0 ≤ x23_1) = true := decide_eq_true c11
     clear c11
     by_cases c12 : x23_1 < (l1.length : Int)
     case neg => rw [if_neg c12] at H; exact absurd H (by simp)
     rw [if_pos c12] at H
     have c12b0 : decide (x23_1 < (l1.length : Int)) = true := decide_eq_true c12
     clear c12
     by_cases c13 : x23_1 < (l2.length : Int)
     case neg => rw [if_neg c13] at H; exact absurd H (by simp)
     rw [if_pos c13] at H
     have c13b0 : decide (x23_1 < (l2.length : Int)) = true := decide_eq_true c13
     clear c13
     by_cases c14 : x11_1.length < 17592186044416
     case neg => rw [if_neg c14] at H; exact absurd H (by simp)
     rw [if_pos c14] at H
     have LMc14 := Aside0.mk c14
     clear c14
     obtain ⟨y539, hy539⟩ : ∃ y_ : List Int, y_ = (x11_1 ++ [wrap64 ((rd l1 x23_1) + (wrap64 (a3 * (rd l2 x23_1))))]) := ⟨_, rfl⟩
     replace H : (monzo_sum.l0 k1 l0 l1 l2 a3 y539 (l1.length : Int) (wrap64 (x23_1 + 1))) = some (r1, r2) := by first | (rw [hy539]; with_reducible exact H) | (have H2_ := (Option.bind_some _ _).symm.trans H; rw [hy539]; with_reducible exact H2_) | (have H2_ := (Option.bind_some _ _).symm.trans H; with_reducible exact H2_) | with_reducible exact H | (rw [hy539]; exact H) | exact H
     have Ny539 := Aside0.mk hy539
     clear hy539
     have H' := Aside0.mk H
     clear H
     try go_wp2
     have n0_ := Aside0.mk (Kd.V_drew HO_1.out)
     have n1_ := Aside0.mk (Kd.V_drew HO_2.out)
     have n2_ := Aside0.mk (Kd.R_drew HO_11.out)
     have n3_ := Aside0.mk (below_drew1 HB.out)
     clear HO_1
     clear HO_2
     clear HO_11
     clear HB
     have HO_1 := n0_
     have HO_2 := n1_
     have HO_11 := n2_
     have HB := n3_
     clear n0_ n1_ n2_ n3_
     have p537 : 0 ≤ (x23_1 : Int) := of_decide_eq_true (by assumption)
     have q537 : x23_1 < (l1.length : Int) := of_decide_eq_true (by assumption)
     obtain ⟨ad537, e537, hx537_0⟩ := Kd.at_int (Kd.V_reads' HO_1.out).2.2 x23_1 p537 q537
     cases e537
     replace p537 := eq_true p537
     replace q537 := eq_true q537
     have p538 : 0 ≤ (x23_1 : Int) := of_decide_eq_true (by assumption)
     have q538 : x23_1 < (l2.length : Int) := of_decide_eq_true (by assumption)
     obtain ⟨ad538, e538, hx538_0⟩ := Kd.at_int (Kd.V_reads' HO_2.out).2.2 x23_1 p538 q538
     cases e538
     replace p538 := eq_true p538
     replace q538 := eq_true q538
     refine start_ (n := 15) (S := fun w' => w'.cell? (ad537.add (x23_1).toNat) = some (.int .i64 (rd l1 x23_1)) ∧ w'.cell? (ad538.add (x23_1).toNat) = some (.int .i64 (rd l2 x23_1))) (ds := [12, 13]) #[false, false, false, false, false, false, false, false, false, false, false, false, false, false, false] (by kernel_rfl) rfl rfl ⟨hx537_0, hx538_0⟩ (fun hHeld => ?_); refine with_tabW monzo_sum.tab8 monzo_sum.bits8 (fun HT_ HW_ => ?_)
     generalize wr.drew = w15 at HO_1 HO_2 HO_11 HB hx537_0 hx538_0 hHeld ⊢
     refine pure_ (i := 0) (N := some 26) (v := ?_) (a' := ?_) #[true, false, false, false, false, false, false, false, false, false, false, false, false, false, false] rfl rfl (any_of HT_.out (by kernel_rfl)) (fun _ _ _ h => h) (Or.inl ⟨by rfl, ?_⟩) ?_ ?_
     rotate_left
     ·intro w'
      go_simp
      with_reducible rfl
     rotate_left
     ·simp only [Act.put, List.setIfInBounds_toArray, List.set_cons_zero, List.set_cons_succ, i64_w, i32_w]
      rfl
     refine pure_ (i := 1) (N := some 27) (v := ?_) (a' := ?_) #[true, true, false, false, false, false, false, false, false, false, false, false, false, false, false] rfl rfl (any_of HT_.out (by kernel_rfl)) (fun _ _ _ h => h) (Or.inl ⟨by rfl, ?_⟩) ?_ ?_
     rotate_left
     ·intro w'
      go_simp
      with_reducible rfl
     rotate_left
     ·simp only [Act.put, List.setIfInBounds_toArray, List.set_cons_zero, List.set_cons_succ, i64_w, i32_w]
      rfl
     refine pure_ (i := 2) (N := some 28) (v := ?_) (a' := ?_) #[true, true, true, false, false, false, false, false, false, false, false, false, false, false, false] rfl rfl (any_of HT_.out (by kernel_rfl)) (fun _ _ _ h => h) (Or.inl ⟨by rfl, ?_⟩) ?_ ?_
     rotate_left
     ·intro w'
      go_simp
      with_reducible rfl
     rotate_left
     ·simp only [Act.put, List.setIfInBounds_toArray, List.set_cons_zero, List.set_cons_succ, i64_w, i32_w]
      rfl
     refine pure_ (i := 3) (N := some 29) (v := ?_) (a' := ?_) #[true, true, true, true, false, false, false, false, false, false, false, false, false, false, false] rfl rfl (any_of HT_.out (by kernel_rfl)) (fun _ _ _ h => h) (Or.inl ⟨by rfl, ?_⟩) ?_ ?_
     rotate_left
     ·intro w'
      go_simp
      with_reducible rfl
     rotate_left
     ·simp only [Act.put, List.setIfInBounds_toArray, List.set_cons_zero, List.set_cons_succ, i64_w, i32_w]
      rfl
     refine pure_ (i := 5) (N := some 31) (v := ?_) (a' := ?_) #[true, true, true, true, false, true, false, false, false, false, false, false, false, false, false] rfl rfl (any_of HT_.out (by kernel_rfl)) (fun _ _ _ h => h) (Or.inl ⟨by rfl, ?_⟩) ?_ ?_
     rotate_left
     ·intro w'
      go_simp
      with_reducible rfl
     rotate_left
     ·simp only [Act.put, List.setIfInBounds_toArray, List.set_cons_zero, List.set_cons_succ, i64_w, i32_w]
      rfl
     refine pure_ (i := 6) (N := some 32) (v := ?_) (a' := ?_) #[true, true, true, true, false, true, true, false, false, false, false, false, false, false, false] rfl rfl (any_of HT_.out (by kernel_rfl)) (fun _ _ _ h => h) (Or.inl ⟨by rfl, ?_⟩) ?_ ?_
     rotate_left
     ·intro w'
      go_simp
      with_reducible rfl
     rotate_left
     ·simp only [Act.put, List.setIfInBounds_toArray, List.set_cons_zero, List.set_cons_succ, i64_w, i32_w]
      rfl
     refine pure_ (i := 7) (N := some 33) (v := ?_) (a' := ?_) #[true, true, true, true, false, true, true, true, false, false, false, false, false, false, false] rfl rfl (any_of HT_.out (by kernel_rfl)) (fun _ _ _ h => h) (Or.inl ⟨by rfl, ?_⟩) ?_ ?_
     rotate_left
     ·intro w'
      go_simp
      with_reducible rfl
     rotate_left
     ·simp only [Act.put, List.setIfInBounds_toArray, List.set_cons_zero, List.set_cons_succ, i64_w, i32_w]
      rfl
     refine pure_ (i := 8) (N := some 34) (v := ?_) (a' := ?_) #[true, true, true, true, false, true, true, true, true, false, false, false, false, false, false] rfl rfl (any_of HT_.out (by kernel_rfl)) (fun _ _ _ h => h) (Or.inl ⟨by rfl, ?_⟩) ?_ ?_
     rotate_left
     ·intro w'
      go_simp
      with_reducible rfl
     rotate_left
     ·simp only [Act.put, List.setIfInBounds_toArray, List.set_cons_zero, List.set_cons_succ, i64_w, i32_w]
      rfl
     refine take_ (i := 4) (N := some 30) (v := ?_) (a' := ?_) #[true, true, true, true, true, true, true, true, true, false, false, false, false, false, false] rfl rfl (take_ofW HT_.out HW_.out (by kernel_rfl)) (fun _ _ _ h => h) (Or.inl ⟨by rfl, ?_⟩) hHeld ?_ ?_
     rotate_left
     ·rintro w' ⟨s0, s1⟩
      go_simp
      with_reducible rfl
     rotate_left
     ·simp only [Act.put, List.setIfInBounds_toArray, List.set_cons_zero, List.set_cons_succ, i64_w, i32_w]
      rfl
     refine take_ (i := 9) (N := some 35) (v := ?_) (a' := ?_) #[true, true, true, true, true, true, true, true, true, true, false, false, false, false, false] rfl rfl (take_ofW HT_.out HW_.out (by kernel_rfl)) (fun _ _ _ h => h) (Or.inl ⟨by rfl, ?_⟩) hHeld ?_ ?_
     rotate_left
     ·rintro w' ⟨s0, s1⟩
      go_simp
      with_reducible rfl
     rotate_left
     ·simp only [Act.put, List.setIfInBounds_toArray, List.set_cons_zero, List.set_cons_succ, i64_w, i32_w]
      rfl
     refine pure_ (i := 10) (N := some 36) (v := ?_) (a' := ?_) #[true, true, true, true, true, true, true, true, true, true, true, false, false, false, false] rfl rfl (any_of HT_.out (by kernel_rfl)) (fun _ _ _ h => h) (Or.inl ⟨by rfl, ?_⟩) ?_ ?_
     rotate_left
     ·intro w'
      go_simp
      with_reducible rfl
     rotate_left
     ·simp only [Act.put, List.setIfInBounds_toArray, List.set_cons_zero, List.set_cons_succ, i64_w, i32_w]
      rfl
     refine pure_ (i := 11) (N := some 37) (v := ?_) (a' := ?_) #[true, true, true, true, true, true, true, true, true, true, true, true, false, false, false] rfl rfl (any_of HT_.out (by kernel_rfl)) (fun _ _ _ h => h) (Or.inl ⟨by rfl, ?_⟩) ?_ ?_
     rotate_left
     ·intro w'
      go_simp
      with_reducible rfl
     rotate_left
     ·simp only [Act.put, List.setIfInBounds_toArray, List.set_cons_zero, List.set_cons_succ, i64_w, i32_w]
      rfl
     refine last_ (i := 12) (N := some 38) #[true, true, true, true, true, true, true, true, true, true, true, true, true, false, false] rfl rfl (one_of HT_.out (by kernel_rfl)) (by decide) (fun K hK => ?_)
     refine value_ (w1 := ?_) (v := ?_) (by rfl) rfl ?_ ?_
     rotate_left 2
     ·go_simp
      constructor
      ·rfl
      ·rfl
     refine hK.out _ _ ?_
     clear hK K
     refine norm_ (a' := ?_) ?_ ?_
     rotate_left
     ·show Act.put _ (some 38) _ = _
      simp only [Act.put, List.setIfInBounds_toArray, List.set_cons_zero, List.set_cons_succ, i64_w, i32_w]
      rfl
     refine last_ (i := 13) (N := some 39) #[true, true, true, true, true, true, true, true, true, true, true, true, true, true, false] rfl rfl (one_of HT_.out (by kernel_rfl)) (by decide) (fun K hK => ?_)
     refine Kd.R_append_step (Kd.int .i64) (w0 := w) w.heap.size (by rfl) (.tmp 26) (.tmp 38) 24 3 (.int .i64 0) 8 rfl Tryz.underlying24 info3 rfl (by decide) (by omega) u11 x11_1 (wrap64 ((rd l1 x23_1) + (wrap64 (a3 * (rd l2 x23_1))))) [.int .i64 (wrap64 ((rd l1 x23_1) + (wrap64 (a3 * (rd l2 x23_1)))))] (fun k_ => (w.heap.size ≤ k_)) (fun _ => False) rfl rfl ?aP (fun _ hk => hk.elim) ?aF ?aO ?aB ?aS ?aL ?_
     (case aP => exact rfl)
     (case aB => exact (by apply_rules [HB.out, below_alloc, pw_below_drewN, below_drew1]))
     (case aF => exact (fun k_ hk => (Nat.le_trans (below_size (by apply_rules [HB.out, below_alloc, pw_below_drewN, below_drew1])) hk)))
     (case aO => exact (by apply_rules [HO_11.out, Kd.R_alloc, Kd.R_drewN, Kd.R_drew]))
     (case aS => exact (below_size (by apply_rules [HB.out, below_alloc, pw_below_drewN, below_drew1])))
     (case aL => have := LMc14.out; omega)
     intro v540 w16 ho hb hg hat
     rw [← Ny539.out] at ho
     have n0_ := Aside0.mk (Kd.V_afterv (ok := (fun k_ => ((P1_ k_ ∨ P2_ k_) ∨ w.heap.size ≤ k_))) (by (with_reducible repeat (first | apply Kd.V_alloc | apply Kd.V_drewN | apply Kd.V_drew)); exact HO_1.out) hg hat)
     have n1_ := Aside0.mk (Kd.V_afterv (ok := (fun k_ => ((P1_ k_ ∨ P2_ k_) ∨ w.heap.size ≤ k_))) (by (with_reducible repeat (first | apply Kd.V_alloc | apply Kd.V_drewN | apply Kd.V_drew)); exact HO_2.out) hg hat)
     have n2_ := Aside0.mk (hb)
     have n3_ := Aside0.mk (ho)
     clear HO_1
     clear HO_2
     clear HB
     clear HO_11
     have HO_1 := n0_
     have HO_2 := n1_
     have HB := n2_
     have HO541 := n3_
     clear n0_ n1_ n2_ n3_
     clear ho hb hg hat
     refine hK.out _ _ ?_
     clear hK K
     refine norm_ (a' := ?_) ?_ ?_
     rotate_left
     ·show Act.put _ (some 39) _ = _
      simp only [Act.put, List.setIfInBounds_toArray, List.set_cons_zero, List.set_cons_succ, i64_w, i32_w]
      rfl
     refine pure_ (i := 14) (N := some 11) (v := ?_) (a' := ?_) #[true, true, true, true, true, true, true, true, true, true, true, true, true, true, true] rfl rfl (any_of HT_.out (by kernel_rfl)) (fun _ _ _ h => h) (Or.inl ⟨by rfl, ?_⟩) ?_ ?_
     rotate_left
     ·intro w'
      go_simp
      with_reducible rfl
     rotate_left
     ·simp only [Act.put, List.setIfInBounds_toArray, List.set_cons_zero, List.set_cons_succ, i64_w, i32_w]
      rfl
     refine done_ (done_of HT_.out (by kernel_rfl)) ?_
     try go_wp2
     go_roundg k1
     case measure => have := HK1.out; omega
     case rel => exact ⟨(y539), (wrap64 (x23_1 + 1)), (by first | rfl | (simp; done) | (simp [*]; done)), H', ⟨by have := HK1.out; omega⟩, ⟨by (with_reducible repeat (first | apply Kd.V_alloc | apply Kd.V_drewN | apply Kd.V_drew)); exact HO_1.out⟩, ⟨by (with_reducible repeat (first | apply Kd.V_alloc | apply Kd.V_drewN | apply Kd.V_drew)); exact HO_2.out⟩, ⟨by apply_rules [HO541.out, Kd.R_alloc, Kd.R_drewN, Kd.R_drew]⟩, ⟨by apply_rules [HB.out, below_alloc, pw_below_drewN, below_drew1]⟩⟩
    ·rw [if_neg c10] at H
     have c10b0 : decide (x23_1 < (l1.length : Int)) = false := decide_eq_false c10
     clear c10
     replace H := Option.bind_eq_some_iff.mp H
     obtain ⟨⟨t542, t545⟩, A170, H⟩ := H
     try dsimp only at H
     have A17 := Aside0.mk A170
     clear A170
     simp only [Option.some.injEq, Prod.mk.injEq] at H
     obtain ⟨rfl, rfl⟩ := H
     obtain ⟨Ao18, co18, eo18⟩ := Kd.R_slice HO_11.out
     subst eo18
     go_wp2_with (first | ((with_reducible refine gate_callee (f := 101) rfl ?_); refine goesK (some 43) Tryz.func101 [.slice A0 l0.length c0, .slice Ao18 x11_1.length co18] rfl rfl ?_; (with_reducible refine (monzo_result.calls k1 _ _ l0 (fun k_ => some k_ = (.slice Ao18 x11_1.length co18 : Value).ownBlock) _ _ x11_1 t542 t545 _ ?side1 ?side2 ?side3 A17.out).mono ?_); (case side1 => apply_rules [(Kd.C_below HR0.out HB.out), Kd.C_alloc, Kd.C_drewN, Kd.C_drew]); (case side2 => exact HC0.out); (case side3 => exact Kd.R_V (Kd.R_tight rfl (HO_11.out))); rintro e w19 ⟨v543, rfl, ho0, hb⟩; refine ⟨_, rfl, ?_⟩; have n0_ := Aside0.mk (Kd.V_below (by (with_reducible repeat (first | apply Kd.V_alloc | apply Kd.V_drewN | apply Kd.V_drew)); exact HO_1.out) hb); have n1_ := Aside0.mk (Kd.V_below (by (with_reducible repeat (first | apply Kd.V_alloc | apply Kd.V_drewN | apply Kd.V_drew)); exact HO_2.out) hb); have n2_ := Aside0.mk (Kd.R_below (by apply_rules [HO_11.out, Kd.R_alloc, Kd.R_drewN, Kd.R_drew]) hb); have n3_ := Aside0.mk (Kd.V_lower (Kd.V_mono (ok' := fun k_ => ((P1_ k_ ∨ P2_ k_) ∨ w.heap.size ≤ k_)) ho0 (fun k_ hk_ => Or.elim hk_ (fun hs_ => (.inr (((HO_11.out).1 k_ hs_.symm)))) (fun hn_ => (.inr (Nat.le_trans (below_size (by apply_rules [HB.out, below_alloc, pw_below_drewN, below_drew1])) hn_))))) (below_size (by apply_rules [HB.out, below_alloc, pw_below_drewN, below_drew1]))); have n4_ := Aside0.mk (below_step (by apply_rules [HB.out, below_alloc, pw_below_drewN, below_drew1]) hb); clear HO_1; clear HO_2; clear HO_11; clear HB; have HO_1 := n0_; have HO_2 := n1_; have HO_11 := n2_; have HO544 := n3_; have HB := n4_; clear n0_ n1_ n2_ n3_ n4_; (try clear hb); (try clear ho0)))
     go_ret2
     exact ⟨_, by first | rfl | simp [*], by (with_reducible repeat (first | apply Kd.V_alloc | apply Kd.V_drewN | apply Kd.V_drew)); exact HO544.out, by apply_rules [HB.out, below_alloc, pw_below_drewN, below_drew1]⟩
 ·rw [if_neg c6] at H
  have c6b0 : (t536 == 0) = false := beq_eq_false_iff_ne.mpr c6
  have c6b1 : (t536 != 0) = true := bne_iff_ne.mpr c6
  simp only [Option.some.injEq, Prod.mk.injEq] at H
  obtain ⟨rfl, rfl⟩ := H
  go_enter Tryz.func115, Tryz.ntmps115
  go_wp2_with (first | ((with_reducible refine gate_dst (N := 16) rfl ?_); refine Kd.N_lit (Kd.slice 3 (Kd.int .i64)) _ 24 ?hg (N' := 16) ?hd (xs := ([l1, l2] : List (List Int))) (inner := [.slice A1 l1.length c1, .slice A2 l2.length c2]) (ok := (fun k_ => ((P1_ k_ ∨ P2_ k_) ∨ w.heap.size ≤ k_))) (okp := (fun k_ => ((P1_ k_ ∨ P2_ k_) ∨ w.heap.size ≤ k_))) ?hr ?hp (fun _ hk => hk) ((show ∀ k_, w.heap.size ≤ k_ → (fun k_ => ((P1_ k_ ∨ P2_ k_) ∨ w.heap.size ≤ k_)) k_ from fun k_ hk => (.inr (Nat.le_trans (below_size (by apply_rules [HB.out, below_alloc, pw_below_drewN, below_drew1])) hk))) _ (Nat.le_refl _)) (Below.refl _ _) (Nat.le_refl _) (by simp) ?_; (case hd => rfl); (case hg => rfl); (case hr => go_simp; try rfl); (case hp => exact (Reps.one (show Kd.FK (Kd.slice 3 (Kd.int .i64)) _ _ l1 [.slice A1 l1.length c1] from (Kd.FK_slice_mk (Kd.V_reads' (Kd.V_mono (ok' := (fun k_ => ((P1_ k_ ∨ P2_ k_) ∨ w.heap.size ≤ k_))) (HO1.out) (fun k_ hk => hk))).2.1 (Kd.V_F (Kd.V_mono (ok' := (fun k_ => ((P1_ k_ ∨ P2_ k_) ∨ w.heap.size ≤ k_))) (HO1.out) (fun k_ hk => hk))))) (Reps.one (show Kd.FK (Kd.slice 3 (Kd.int .i64)) _ _ l2 [.slice A2 l2.length c2] from (Kd.FK_slice_mk (Kd.V_reads' (Kd.V_mono (ok' := (fun k_ => ((P1_ k_ ∨ P2_ k_) ∨ w.heap.size ≤ k_))) (HO2.out) (fun k_ hk => hk))).2.1 (Kd.V_F (Kd.V_mono (ok' := (fun k_ => ((P1_ k_ ∨ P2_ k_) ∨ w.heap.size ≤ k_))) (HO2.out) (fun k_ hk => hk))))) (Reps.none _ _)))); intro v534 w20 ho21 hb hg_ hnew_; clear hg_ hnew_; (first | rw [← Ny533.out] at ho21 | (simp only [Int.reduceToNat] at ho21; rw [← Ny533.out] at ho21)); replace HO1 := Aside0.mk (Kd.V_elder' (by (with_reducible repeat (first | apply Kd.V_alloc | apply Kd.V_drewN | apply Kd.V_drew)); exact HO1.out) (Kd.N_base ho21) hb); replace HO2 := Aside0.mk (Kd.V_elder' (by (with_reducible repeat (first | apply Kd.V_alloc | apply Kd.V_drewN | apply Kd.V_drew)); exact HO2.out) (Kd.N_base ho21) hb); have HO535 := Aside0.mk (Kd.N_lower ho21 (below_size (by apply_rules [HB.out, below_alloc, pw_below_drewN, below_drew1]))); replace HB := Aside0.mk (below_step (by apply_rules [HB.out, below_alloc, pw_below_drewN, below_drew1]) hb); clear hb ho21; obtain ⟨Ao22, co22, eo22⟩ := Kd.N_slice HO535.out; subst eo22) | ((with_reducible refine gate_callee (f := 28) rfl ?_); refine goesK (some 17) Tryz.func28 [.slice A0 l0.length c0, .slice Ao22 y533.length co22] rfl rfl ?_; (with_reducible refine (monzo_CheckAll.calls k _ _ l0 _ _ y533 t536 _ ?side1 ?side2 ?side3 ?side4 A5.out).mono ?_); (case side1 => apply_rules [(Kd.C_below HR0.out HB.out), Kd.C_alloc, Kd.C_drewN, Kd.C_drew]); (case side2 => exact HC0.out); (case side3 => apply_rules [(Kd.N_reads' HO535.out).2.2, Kd.C_alloc, Kd.C_drewN, Kd.C_drew]); (case side4 => exact (Kd.N_reads' HO535.out).2.1); rintro e w' ⟨rfl, ⟨nd, rfl⟩⟩; refine ⟨_, rfl, ?_⟩))
  go_ret2
  exact ⟨(.slice none 0 0), by first | rfl | simp [*], Kd.V_mono (Kd.R_V (base := 0) (ok := fun k_ => w.heap.size ≤ k_) (by first | exact Kd.R_nil _ _ _ _ _ | exact Kd.N_nil _ _ _ _ _ | exact Kd.V_nil _ _ _ _ _ | exact Kd.Q_nil _ _ _ _ _ | exact Kd.S_nil _ _ _ _ _)) (fun k_ hk => by first | exact ⟨(.inr (hk.1)), hk.2⟩ | exact (.inr (hk))), by apply_rules [HB.out, below_alloc, pw_below_drewN, below_drew1]⟩
def monzo_Add.f (k : Nat) (l0 : List Int) (l1 : List Int) (l2 : List Int) : Option (List Int × Int) := (monzo_sum.f k l0 l1 l2 1).bind fun bt546 => (some (bt546.1, bt546.2))
set_option maxHeartbeats 8000000 in
set_option maxRecDepth 100000 in
theorem monzo_Add.calls (k : Nat) (A0 : Option Addr) (c0 : Nat) (l0 : List Int) (P1_ : Nat → Prop) (A1 : Option Addr) (c1 : Nat) (l1 : List Int) (P2_ : Nat → Prop) (A2 : Option Addr) (c2 : Nat) (l2 : List Int) (r1 : List Int) (r2 : Int) (w : World) (hr0 : Kd.C (Kd.int .i64) w A0 l0.length l0) (hc0 : l0.length ≤ c0) (hs1 : Kd.V (Kd.int .i64) 3 w w.heap.size (fun k_ => P1_ k_) (.slice A1 l1.length c1) l1) (hs2 : Kd.V (Kd.int .i64) 3 w w.heap.size (fun k_ => P2_ k_) (.slice A2 l2.length c2) l2) (h : monzo_Add.f k l0 l1 l2 = some (r1, r2)) :
  Calls Tryz.prog 47 #[.slice A0 l0.length c0, .slice A1 l1.length c1, .slice A2 l2.length c2] w fun e w' => ∃ v0_ : Value, e = .returned (.tuple #[v0_, .int .i64 r2]) ∧ Kd.V (Kd.int .i64) 3 w' w.heap.size (fun k_ => ((P1_ k_ ∨ P2_ k_) ∨ w.heap.size ≤ k_)) v0_ r1 ∧ Below w.heap.size w w' := by
 have HR0 := Aside0.mk hr0
 have HC0 := Aside0.mk hc0
 clear hr0 hc0
 have HO1 := Aside0.mk (show Kd.V (Kd.int .i64) 3 w w.heap.size (fun k_ => ((P1_ k_ ∨ P2_ k_) ∨ w.heap.size ≤ k_)) (.slice A1 l1.length c1) l1 from Kd.V_mono hs1 (fun k_ hk => .inl (.inl hk)))
 have HO2 := Aside0.mk (show Kd.V (Kd.int .i64) 3 w w.heap.size (fun k_ => ((P1_ k_ ∨ P2_ k_) ∨ w.heap.size ≤ k_)) (.slice A2 l2.length c2) l2 from Kd.V_mono hs2 (fun k_ hk => .inl (.inr hk)))
 have HB := Aside0.mk (Below.refl w.heap.size w)
 have H : ((monzo_sum.f k l0 l1 l2 1).bind fun bt546 => (some (bt546.1, bt546.2))) = some (r1, r2) := h
 clear h
 replace H := Option.bind_eq_some_iff.mp H
 obtain ⟨⟨t546, t549⟩, A40, H⟩ := H
 try dsimp only at H
 have A4 := Aside0.mk A40
 clear A40
 simp only [Option.some.injEq, Prod.mk.injEq] at H
 obtain ⟨rfl, rfl⟩ := H
 go_enter Tryz.func47, Tryz.ntmps47
 go_wp2_with (first | ((with_reducible refine gate_callee (f := 115) rfl ?_); refine goesK (some 11) Tryz.func115 [.slice A0 l0.length c0, .slice A1 l1.length c1, .slice A2 l2.length c2, .int .i64 1] rfl rfl ?_; (with_reducible refine (monzo_sum.calls k _ _ l0 (fun k_ => ((P1_ k_ ∨ P2_ k_) ∨ w.heap.size ≤ k_)) _ _ l1 (fun k_ => ((P1_ k_ ∨ P2_ k_) ∨ w.heap.size ≤ k_)) _ _ l2 1 t546 t549 _ ?side1 ?side2 ?side3 ?side4 A4.out).mono ?_); (case side1 => apply_rules [HR0.out, Kd.C_alloc, Kd.C_drewN, Kd.C_drew]); (case side2 => exact HC0.out); (case side3 => exact HO1.out); (case side4 => exact HO2.out); rintro e w5 ⟨v547, rfl, ho0, hb⟩; refine ⟨_, rfl, ?_⟩; replace HO1 := Aside0.mk (Kd.V_below (by apply_rules [HO1.out, Kd.V_alloc, Kd.V_drewN, Kd.V_drew]) hb); replace HO2 := Aside0.mk (Kd.V_below (by apply_rules [HO2.out, Kd.V_alloc, Kd.V_drewN, Kd.V_drew]) hb); have HO548 := Aside0.mk (Kd.V_lower (Kd.V_mono (ok' := fun k_ => ((P1_ k_ ∨ P2_ k_) ∨ w.heap.size ≤ k_)) ho0 (fun k_ hk_ => Or.elim hk_ (fun hs_ => Or.elim hs_ (fun hs_ => hs_) (fun hs_ => hs_)) (fun hn_ => (.inr (Nat.le_trans (below_size (by apply_rules [HB.out, below_alloc, pw_below_drewN, below_drew1])) hn_))))) (below_size (by apply_rules [HB.out, below_alloc, pw_below_drewN, below_drew1]))); replace HB := Aside0.mk (below_step (by apply_rules [HB.out, below_alloc, pw_below_drewN, below_drew1]) hb); (try clear hb); (try clear ho0)))
 go_ret2
 exact ⟨_, by first | rfl | simp [*], by (with_reducible repeat (first | apply Kd.V_alloc | apply Kd.V_drewN | apply Kd.V_drew)); exact HO548.out, by apply_rules [HB.out, below_alloc, pw_below_drewN, below_drew1]⟩
def monzo_Sub.f (k : Nat) (l0 : List Int) (l1 : List Int) (l2 : List Int) : Option (List Int × Int) := (monzo_sum.f k l0 l1 l2 (-1)).bind fun bt550 => (some (bt550.1, bt550.2))
set_option maxHeartbeats 8000000 in
set_option maxRecDepth 100000 in
theorem monzo_Sub.calls (k : Nat) (A0 : Option Addr) (c0 : Nat) (l0 : List Int) (P1_ : Nat → Prop) (A1 : Option Addr) (c1 : Nat) (l1 : List Int) (P2_ : Nat → Prop) (A2 : Option Addr) (c2 : Nat) (l2 : List Int) (r1 : List Int) (r2 : Int) (w : World) (hr0 : Kd.C (Kd.int .i64) w A0 l0.length l0) (hc0 : l0.length ≤ c0) (hs1 : Kd.V (Kd.int .i64) 3 w w.heap.size (fun k_ => P1_ k_) (.slice A1 l1.length c1) l1) (hs2 : Kd.V (Kd.int .i64) 3 w w.heap.size (fun k_ => P2_ k_) (.slice A2 l2.length c2) l2) (h : monzo_Sub.f k l0 l1 l2 = some (r1, r2)) :
  Calls Tryz.prog 48 #[.slice A0 l0.length c0, .slice A1 l1.length c1, .slice A2 l2.length c2] w fun e w' => ∃ v0_ : Value, e = .returned (.tuple #[v0_, .int .i64 r2]) ∧ Kd.V (Kd.int .i64) 3 w' w.heap.size (fun k_ => ((P1_ k_ ∨ P2_ k_) ∨ w.heap.size ≤ k_)) v0_ r1 ∧ Below w.heap.size w w' := by
 have HR0 := Aside0.mk hr0
 have HC0 := Aside0.mk hc0
 clear hr0 hc0
 have HO1 := Aside0.mk (show Kd.V (Kd.int .i64) 3 w w.heap.size (fun k_ => ((P1_ k_ ∨ P2_ k_) ∨ w.heap.size ≤ k_)) (.slice A1 l1.length c1) l1 from Kd.V_mono hs1 (fun k_ hk => .inl (.inl hk)))
 have HO2 := Aside0.mk (show Kd.V (Kd.int .i64) 3 w w.heap.size (fun k_ => ((P1_ k_ ∨ P2_ k_) ∨ w.heap.size ≤ k_)) (.slice A2 l2.length c2) l2 from Kd.V_mono hs2 (fun k_ hk => .inl (.inr hk)))
 have HB := Aside0.mk (Below.refl w.heap.size w)
 have H : ((monzo_sum.f k l0 l1 l2 (-1)).bind fun bt550 => (some (bt550.1, bt550.2))) = some (r1, r2) := h
 clear h
 replace H := Option.bind_eq_some_iff.mp H
 obtain ⟨⟨t550, t553⟩, A40, H⟩ := H
 try dsimp only at H
 have A4 := Aside0.mk A40
 clear A40
 simp only [Option.some.injEq, Prod.mk.injEq] at H
 obtain ⟨rfl, rfl⟩ := H
 go_enter Tryz.func48, Tryz.ntmps48
 go_wp2_with (first | ((with_reducible refine gate_callee (f := 115) rfl ?_); refine goesK (some 11) Tryz.func115 [.slice A0 l0.length c0, .slice A1 l1.length c1, .slice A2 l2.length c2, .int .i64 (-1)] rfl rfl ?_; (with_reducible refine (monzo_sum.calls k _ _ l0 (fun k_ => ((P1_ k_ ∨ P2_ k_) ∨ w.heap.size ≤ k_)) _ _ l1 (fun k_ => ((P1_ k_ ∨ P2_ k_) ∨ w.heap.size ≤ k_)) _ _ l2 (-1) t550 t553 _ ?side1 ?side2 ?side3 ?side4 A4.out).mono ?_); (case side1 => apply_rules [HR0.out, Kd.C_alloc, Kd.C_drewN, Kd.C_drew]); (case side2 => exact HC0.out); (case side3 => exact HO1.out); (case side4 => exact HO2.out); rintro e w5 ⟨v551, rfl, ho0, hb⟩; refine ⟨_, rfl, ?_⟩; replace HO1 := Aside0.mk (Kd.V_below (by apply_rules [HO1.out, Kd.V_alloc, Kd.V_drewN, Kd.V_drew]) hb); replace HO2 := Aside0.mk (Kd.V_below (by apply_rules [HO2.out, Kd.V_alloc, Kd.V_drewN, Kd.V_drew]) hb); have HO552 := Aside0.mk (Kd.V_lower (Kd.V_mono (ok' := fun k_ => ((P1_ k_ ∨ P2_ k_) ∨ w.heap.size ≤ k_)) ho0 (fun k_ hk_ => Or.elim hk_ (fun hs_ => Or.elim hs_ (fun hs_ => hs_) (fun hs_ => hs_)) (fun hn_ => (.inr (Nat.le_trans (below_size (by apply_rules [HB.out, below_alloc, pw_below_drewN, below_drew1])) hn_))))) (below_size (by apply_rules [HB.out, below_alloc, pw_below_drewN, below_drew1]))); replace HB := Aside0.mk (below_step (by apply_rules [HB.out, below_alloc, pw_below_drewN, below_drew1]) hb); (try clear hb); (try clear ho0)))
 go_ret2
 exact ⟨_, by first | rfl | simp [*], by (with_reducible repeat (first | apply Kd.V_alloc | apply Kd.V_drewN | apply Kd.V_drew)); exact HO552.out, by apply_rules [HB.out, below_alloc, pw_below_drewN, below_drew1]⟩
def monzo_Power.l0 : Nat → List Int → Int → List Int → List Int → Int → Int → Option (List Int × Int)
 | 0, _, _, _, _, _, _ => none
 | k + 1, x0, x2, x9, x21, x22, x23 => if x23 < x22 then (if 0 ≤ x23 then (if x23 < (x21.length : Int) then (if x9.length < 17592186044416 then (monzo_Power.l0 k x0 x2 (x9 ++ [wrap64 (x2 * (rd x21 x23))]) x21 x22 (wrap64 (x23 + 1))) else (none)) else (none)) else (none)) else ((monzo_result.f k x0 x9).bind fun bt559 => (some (bt559.1, bt559.2)))
def monzo_Power.f (k : Nat) (l0 : List Int) (l1 : List Int) (a2 : Int) : Option (List Int × Int) := (monzo_Check.f k l0 l1).bind fun t554 => (if t554 = 0 then (monzo_Power.l0 k l0 (mn (mx a2 (-1001)) 1001) ([] : List Int) l1 (l1.length : Int) 0) else (some (([] : List Int), t554)))
set_option maxHeartbeats 8000000 in
set_option maxRecDepth 100000 in
theorem monzo_Power.calls (k : Nat) (A0 : Option Addr) (c0 : Nat) (l0 : List Int) (A1 : Option Addr) (c1 : Nat) (l1 : List Int) (a2 : Int) (r1 : List Int) (r2 : Int) (w : World) (hr0 : Kd.C (Kd.int .i64) w A0 l0.length l0) (hc0 : l0.length ≤ c0) (hr1 : Kd.C (Kd.int .i64) w A1 l1.length l1) (hc1 : l1.length ≤ c1) (h : monzo_Power.f k l0 l1 a2 = some (r1, r2)) :
  Calls Tryz.prog 50 #[.slice A0 l0.length c0, .slice A1 l1.length c1, .int .i64 a2] w fun e w' => ∃ v0_ : Value, e = .returned (.tuple #[v0_, .int .i64 r2]) ∧ Kd.V (Kd.int .i64) 3 w' w.heap.size (fun k_ => (w.heap.size ≤ k_)) v0_ r1 ∧ Below w.heap.size w w' := by
 have HR0 := Aside0.mk hr0
 have HC0 := Aside0.mk hc0
 clear hr0 hc0
 have HR1 := Aside0.mk hr1
 have HC1 := Aside0.mk hc1
 clear hr1 hc1
 have HB := Aside0.mk (Below.refl w.heap.size w)
 have H : ((monzo_Check.f k l0 l1).bind fun t554 => (if t554 = 0 then (monzo_Power.l0 k l0 (mn (mx a2 (-1001)) 1001) ([] : List Int) l1 (l1.length : Int) 0) else (some (([] : List Int), t554)))) = some (r1, r2) := h
 clear h
 replace H := Option.bind_eq_some_iff.mp H
 obtain ⟨t554, A40, H⟩ := H
 try dsimp only at H
 have A4 := Aside0.mk A40
 clear A40
 by_cases c5 : t554 = 0
 ·rw [if_pos c5] at H
  have c5b0 : (t554 == 0) = true := beq_iff_eq.mpr c5
  have c5b1 : (t554 != 0) = false := bne_eq_false_iff_eq.mpr c5
  clear c5
  obtain ⟨ji6, hji6⟩ : ∃ j_ : Int, (mx a2 (-1001)) = j_ := ⟨_, rfl⟩
  replace H : (monzo_Power.l0 k l0 (mn (ji6) 1001) ([] : List Int) l1 (l1.length : Int) 0) = some (r1, r2) := by first | (rw [hji6] at H; exact H) | (simp only [hji6] at H ⊢; exact H)
  (try rw [hji6] at A4)
  have hji6_ : (if a2 < (-1001) then (-1001) else a2) = ji6 := hji6
  obtain ⟨ji7, hji7⟩ : ∃ j_ : Int, (mn (ji6) 1001) = j_ := ⟨_, rfl⟩
  replace H : (monzo_Power.l0 k l0 ji7 ([] : List Int) l1 (l1.length : Int) 0) = some (r1, r2) := by first | (rw [hji7] at H; exact H) | (simp only [hji7] at H ⊢; exact H)
  (try rw [hji7] at A4)
  have hji7_ : (if 1001 < (ji6) then 1001 else (ji6)) = ji7 := hji7
  have H' := Aside0.mk H
  clear H
  go_enter Tryz.func50, Tryz.ntmps50
  go_wp2_with (first | ((with_reducible refine gate_callee (f := 27) rfl ?_); refine goesK (some 14) Tryz.func27 [.slice A0 l0.length c0, .slice A1 l1.length c1] rfl rfl ?_; (with_reducible refine (monzo_Check.calls k _ _ l0 (fun k_ => k_ < w.heap.size) _ _ l1 t554 _ ?side1 ?side2 ?side3 A4.out).mono ?_); (case side1 => apply_rules [HR0.out, Kd.C_alloc, Kd.C_drewN, Kd.C_drew]); (case side2 => exact HC0.out); (case side3 => exact Kd.V_mk HC1.out (Kd.F_below (Kd.C_F (Kd.heap_int .i64) HR1.out) (by apply_rules [HB.out, below_alloc, pw_below_drewN, below_drew1]))); rintro e w8 ⟨rfl, hb⟩; refine ⟨_, rfl, ?_⟩; replace HB := Aside0.mk (below_step (by apply_rules [HB.out, below_alloc, pw_below_drewN, below_drew1]) hb); (try clear hb)))
  go_loopg [9, 23] k (fun kq v9 v23 w' => ∃ (x9_1 : List Int) (x23_1 : Int), v23 = .int .i64 x23_1 ∧ Aside0 (monzo_Power.l0 kq l0 ji7 x9_1 l1 (l1.length : Int) x23_1 = some (r1, r2)) ∧ Aside0 (kq ≤ k) ∧ Aside0 (Kd.R (Kd.int .i64) 3 w' w.heap.size (fun k_ => (w.heap.size ≤ k_)) v9 x9_1) ∧ Aside0 (Below w.heap.size w w'))
  case atStart => exact ⟨(([] : List Int)), (0), (by first | rfl | (simp; done) | (simp [*]; done)), H', ⟨Nat.le_refl _⟩, ⟨by first | exact Kd.R_nil _ _ _ _ _ | exact Kd.N_nil _ _ _ _ _ | exact Kd.V_nil _ _ _ _ _ | exact Kd.Q_nil _ _ _ _ _ | exact Kd.S_nil _ _ _ _ _⟩, ⟨by apply_rules [HB.out, below_alloc, pw_below_drewN, below_drew1]⟩⟩
  case round =>
   clear H'
   obtain ⟨x9_1, x23_1, rfl, HA, HK1, HO_9, HB⟩ := hrel
   cases gk with
   | zero => exact absurd HA.out (by simp [monzo_Power.l0])
   | succ k1 =>
    have H := HA.out
    clear HA
    simp only [monzo_Power.l0] at H
    by_cases c9 : x23_1 < (l1.length : Int)
    ·rw [if_pos c9] at H
     have c9b0 : decide (x23_1 < (l1.length : Int)) = true := decide_eq_true c9
     clear c9
     by_cases c10 : 0 ≤ x23_1
     case neg => rw [if_neg c10] at H; exact absurd H (by simp)
     rw [if_pos c10] at H
     have c10b0 : decide (0 ≤ x23_1) = true := decide_eq_true c10
     clear c10
     by_cases c11 : x23_1 < (l1.length : Int)
     case neg => rw [if_neg c11] at H; exact absurd H (by simp)
     rw [if_pos c11] at H
     have c11b0 : decide (x23_1 < (l1.length : Int)) = true := decide_eq_true c11
     clear c11
     by_cases c12 : x9_1.length < 17592186044416
     case neg => rw [if_neg c12] at H; exact absurd H (by simp)
     rw [if_pos c12] at H
     have LMc12 := Aside0.mk c12
     clear c12
     obtain ⟨y556, hy556⟩ : ∃ y_ : List Int, y_ = (x9_1 ++ [wrap64 (ji7 * (rd l1 x23_1))]) := ⟨_, rfl⟩
     replace H : (monzo_Power.l0 k1 l0 ji7 y556 l1 (l1.length : Int) (wrap64 (x23_1 + 1))) = some (r1, r2) := by first | (rw [hy556]; with_reducible exact H) | (have H2_ := (Option.bind_some _ _).symm.trans H; rw [hy556]; with_reducible exact H2_) | (have H2_ := (Option.bind_some _ _).symm.trans H; with_reducible exact H2_) | with_reducible exact H | (rw [hy556]; exact H) | exact H
     have Ny556 := Aside0.mk hy556
     clear hy556
     have H' := Aside0.mk H
     clear H
     have p555 : 0 ≤ (x23_1 : Int) := of_decide_eq_true (by assumption)
     have q555 : x23_1 < (l1.length : Int) := of_decide_eq_true (by assumption)
     obtain ⟨ad555, e555, hx555_0⟩ := Kd.at_int HR1.out x23_1 p555 q555
     cases e555
     replace hx555_0 := (HB.out.cell (World.block_lt_of_cell? w _ hx555_0)).trans hx555_0
     replace p555 := eq_true p555
     replace q555 := eq_true q555
     go_wp2_with (first | ((with_reducible refine gate_builtin (b := .append) (xs := #[.tmp 27, .tmp 31]) rfl ?_); at_builtin; refine Kd.R_append (Kd.int .i64) (w0 := w) w.heap.size rfl (.tmp 27) (.tmp 31) 24 3 (.int .i64 0) 8 rfl Tryz.underlying24 info3 rfl (by decide) (by omega) u9 x9_1 (wrap64 (ji7 * (rd l1 x23_1))) [.int .i64 (wrap64 (ji7 * (rd l1 x23_1)))] (fun k_ => (w.heap.size ≤ k_)) (fun _ => False) rfl rfl ?aP (fun _ hk => hk.elim) ?aF ?aO ?aB ?aS ?aL ?_; (case aP => exact rfl); (case aB => exact (by apply_rules [HB.out, below_alloc, pw_below_drewN, below_drew1])); (case aF => exact (fun k_ hk => (Nat.le_trans (below_size (by apply_rules [HB.out, below_alloc, pw_below_drewN, below_drew1])) hk))); (case aO => exact (by apply_rules [HO_9.out, Kd.R_alloc, Kd.R_drewN, Kd.R_drew])); (case aS => exact (below_size (by apply_rules [HB.out, below_alloc, pw_below_drewN, below_drew1]))); (case aL => have := LMc12.out; omega); intro v557 w13 ho hb hg hat; rw [← Ny556.out] at ho; replace HB := Aside0.mk (hb); have HO558 := Aside0.mk (ho); clear HO_9; clear ho hb hg hat))
     go_roundg k1
     case measure => have := HK1.out; omega
     case rel => exact ⟨(y556), (wrap64 (x23_1 + 1)), (by first | rfl | (simp; done) | (simp [*]; done)), H', ⟨by have := HK1.out; omega⟩, ⟨by apply_rules [HO558.out, Kd.R_alloc, Kd.R_drewN, Kd.R_drew]⟩, ⟨by apply_rules [HB.out, below_alloc, pw_below_drewN, below_drew1]⟩⟩
    ·rw [if_neg c9] at H
     have c9b0 : decide (x23_1 < (l1.length : Int)) = false := decide_eq_false c9
     clear c9
     replace H := Option.bind_eq_some_iff.mp H
     obtain ⟨⟨t559, t562⟩, A140, H⟩ := H
     try dsimp only at H
     have A14 := Aside0.mk A140
     clear A140
     simp only [Option.some.injEq, Prod.mk.injEq] at H
     obtain ⟨rfl, rfl⟩ := H
     obtain ⟨Ao15, co15, eo15⟩ := Kd.R_slice HO_9.out
     subst eo15
     go_wp2_with (first | ((with_reducible refine gate_callee (f := 101) rfl ?_); refine goesK (some 36) Tryz.func101 [.slice A0 l0.length c0, .slice Ao15 x9_1.length co15] rfl rfl ?_; (with_reducible refine (monzo_result.calls k1 _ _ l0 (fun k_ => some k_ = (.slice Ao15 x9_1.length co15 : Value).ownBlock) _ _ x9_1 t559 t562 _ ?side1 ?side2 ?side3 A14.out).mono ?_); (case side1 => apply_rules [(Kd.C_below HR0.out HB.out), Kd.C_alloc, Kd.C_drewN, Kd.C_drew]); (case side2 => exact HC0.out); (case side3 => exact Kd.R_V (Kd.R_tight rfl (HO_9.out))); rintro e w16 ⟨v560, rfl, ho0, hb⟩; refine ⟨_, rfl, ?_⟩; have n0_ := Aside0.mk (Kd.R_below (by apply_rules [HO_9.out, Kd.R_alloc, Kd.R_drewN, Kd.R_drew]) hb); have n1_ := Aside0.mk (Kd.V_lower (Kd.V_mono (ok' := fun k_ => (w.heap.size ≤ k_)) ho0 (fun k_ hk_ => Or.elim hk_ (fun hs_ => ((HO_9.out).1 k_ hs_.symm)) (fun hn_ => (Nat.le_trans (below_size (by apply_rules [HB.out, below_alloc, pw_below_drewN, below_drew1])) hn_)))) (below_size (by apply_rules [HB.out, below_alloc, pw_below_drewN, below_drew1]))); have n2_ := Aside0.mk (below_step (by apply_rules [HB.out, below_alloc, pw_below_drewN, below_drew1]) hb); clear HO_9; clear HB; have HO_9 := n0_; have HO561 := n1_; have HB := n2_; clear n0_ n1_ n2_; (try clear hb); (try clear ho0)))
     go_ret2
     exact ⟨_, by first | rfl | (simp [errW_none, errW_some] <;> rfl) | (simp only [← hji6, ← hji7]; first | rfl | (simp [errW_none, errW_some] <;> rfl)) | (simp [*, errW_none, errW_some] <;> rfl), by (with_reducible repeat (first | apply Kd.V_alloc | apply Kd.V_drewN | apply Kd.V_drew)); exact HO561.out, by apply_rules [HB.out, below_alloc, pw_below_drewN, below_drew1]⟩
 ·rw [if_neg c5] at H
  have c5b0 : (t554 == 0) = false := beq_eq_false_iff_ne.mpr c5
  have c5b1 : (t554 != 0) = true := bne_iff_ne.mpr c5
  simp only [Option.some.injEq, Prod.mk.injEq] at H
  obtain ⟨rfl, rfl⟩ := H
  go_enter Tryz.func50, Tryz.ntmps50
  go_wp2_with (first | ((with_reducible refine gate_callee (f := 27) rfl ?_); refine goesK (some 14) Tryz.func27 [.slice A0 l0.length c0, .slice A1 l1.length c1] rfl rfl ?_; (with_reducible refine (monzo_Check.calls k _ _ l0 (fun k_ => k_ < w.heap.size) _ _ l1 t554 _ ?side1 ?side2 ?side3 A4.out).mono ?_); (case side1 => apply_rules [HR0.out, Kd.C_alloc, Kd.C_drewN, Kd.C_drew]); (case side2 => exact HC0.out); (case side3 => exact Kd.V_mk HC1.out (Kd.F_below (Kd.C_F (Kd.heap_int .i64) HR1.out) (by apply_rules [HB.out, below_alloc, pw_below_drewN, below_drew1]))); rintro e w17 ⟨rfl, hb⟩; refine ⟨_, rfl, ?_⟩; replace HB := Aside0.mk (below_step (by apply_rules [HB.out, below_alloc, pw_below_drewN, below_drew1]) hb); (try clear hb)))
  go_ret2
  exact ⟨(.slice none 0 0), by first | rfl | simp [*], Kd.R_V (base := 0) (ok := fun k_ => w.heap.size ≤ k_) (by first | exact Kd.R_nil _ _ _ _ _ | exact Kd.N_nil _ _ _ _ _ | exact Kd.V_nil _ _ _ _ _ | exact Kd.Q_nil _ _ _ _ _ | exact Kd.S_nil _ _ _ _ _), by apply_rules [HB.out, below_alloc, pw_below_drewN, below_drew1]⟩
def monzo_Neg.f (k : Nat) (l0 : List Int) (l1 : List Int) : Option (List Int × Int) := (monzo_Power.f k l0 l1 (-1)).bind fun bt563 => (some (bt563.1, bt563.2))
set_option maxHeartbeats 8000000 in
set_option maxRecDepth 100000 in
theorem monzo_Neg.calls (k : Nat) (A0 : Option Addr) (c0 : Nat) (l0 : List Int) (A1 : Option Addr) (c1 : Nat) (l1 : List Int) (r1 : List Int) (r2 : Int) (w : World) (hr0 : Kd.C (Kd.int .i64) w A0 l0.length l0) (hc0 : l0.length ≤ c0) (hr1 : Kd.C (Kd.int .i64) w A1 l1.length l1) (hc1 : l1.length ≤ c1) (h : monzo_Neg.f k l0 l1 = some (r1, r2)) :
  Calls Tryz.prog 49 #[.slice A0 l0.length c0, .slice A1 l1.length c1] w fun e w' => ∃ v0_ : Value, e = .returned (.tuple #[v0_, .int .i64 r2]) ∧ Kd.V (Kd.int .i64) 3 w' w.heap.size (fun k_ => (w.heap.size ≤ k_)) v0_ r1 ∧ Below w.heap.size w w' := by
 have HR0 := Aside0.mk hr0
 have HC0 := Aside0.mk hc0
 clear hr0 hc0
 have HR1 := Aside0.mk hr1
 have HC1 := Aside0.mk hc1
 clear hr1 hc1
 have HB := Aside0.mk (Below.refl w.heap.size w)
 have H : ((monzo_Power.f k l0 l1 (-1)).bind fun bt563 => (some (bt563.1, bt563.2))) = some (r1, r2) := h
 clear h
 replace H := Option.bind_eq_some_iff.mp H
 obtain ⟨⟨t563, t566⟩, A30, H⟩ := H
 try dsimp only at H
 have A3 := Aside0.mk A30
 clear A30
 simp only [Option.some.injEq, Prod.mk.injEq] at H
 obtain ⟨rfl, rfl⟩ := H
 go_enter Tryz.func49, Tryz.ntmps49
 go_wp2_with (first | ((with_reducible refine gate_callee (f := 50) rfl ?_); refine goesK (some 8) Tryz.func50 [.slice A0 l0.length c0, .slice A1 l1.length c1, .int .i64 (-1)] rfl rfl ?_; (with_reducible refine (monzo_Power.calls k _ _ l0 _ _ l1 (-1) t563 t566 _ ?side1 ?side2 ?side3 ?side4 A3.out).mono ?_); (case side1 => apply_rules [HR0.out, Kd.C_alloc, Kd.C_drewN, Kd.C_drew]); (case side2 => exact HC0.out); (case side3 => apply_rules [HR1.out, Kd.C_alloc, Kd.C_drewN, Kd.C_drew]); (case side4 => exact HC1.out); rintro e w4 ⟨v564, rfl, ho0, hb⟩; refine ⟨_, rfl, ?_⟩; have HO565 := Aside0.mk (Kd.V_lower (Kd.V_mono (ok' := fun k_ => (w.heap.size ≤ k_)) ho0 (fun k_ hk_ => (Nat.le_trans (below_size (by apply_rules [HB.out, below_alloc, pw_below_drewN, below_drew1])) hk_))) (below_size (by apply_rules [HB.out, below_alloc, pw_below_drewN, below_drew1]))); replace HB := Aside0.mk (below_step (by apply_rules [HB.out, below_alloc, pw_below_drewN, below_drew1]) hb); (try clear hb); (try clear ho0)))
 go_ret2
 exact ⟨_, by first | rfl | simp [*], by (with_reducible repeat (first | apply Kd.V_alloc | apply Kd.V_drewN | apply Kd.V_drew)); exact HO565.out, by apply_rules [HB.out, below_alloc, pw_below_drewN, below_drew1]⟩
def monzo_Sign.f (k : Nat) (l0 : List Int) (l1 : List Int) : Option (Int × Int) := (monzo_Check.f k l0 l1).bind fun t495 => (if t495 = 0 then ((monzo_sides.f k l0 l1).bind fun bt496 => ((decimal_Compare.f bt496.1 bt496.2).bind fun t498 => (some (t498, 0)))) else (some (0, t495)))
set_option maxHeartbeats 8000000 in
set_option maxRecDepth 100000 in
theorem monzo_Sign.calls (k : Nat) (A0 : Option Addr) (c0 : Nat) (l0 : List Int) (A1 : Option Addr) (c1 : Nat) (l1 : List Int) (r1 : Int) (r2 : Int) (w : World) (hT : TabW w) (hr0 : Kd.C (Kd.int .i64) w A0 l0.length l0) (hc0 : l0.length ≤ c0) (hr1 : Kd.C (Kd.int .i64) w A1 l1.length l1) (hc1 : l1.length ≤ c1) (h : monzo_Sign.f k l0 l1 = some (r1, r2)) :
  Calls Tryz.prog 44 #[.slice A0 l0.length c0, .slice A1 l1.length c1] w fun e w' => e = .returned (.tuple #[.int .i64 r1, .int .i64 r2]) ∧ Below w.heap.size w w' := by
 have HR0 := Aside0.mk hr0
 have HC0 := Aside0.mk hc0
 clear hr0 hc0
 have HR1 := Aside0.mk hr1
 have HC1 := Aside0.mk hc1
 clear hr1 hc1
 have HB := Aside0.mk (Below.refl w.heap.size w)
 have H : ((monzo_Check.f k l0 l1).bind fun t495 => (if t495 = 0 then ((monzo_sides.f k l0 l1).bind fun bt496 => ((decimal_Compare.f bt496.1 bt496.2).bind fun t498 => (some (t498, 0)))) else (some (0, t495)))) = some (r1, r2) := h
 clear h
 replace H := Option.bind_eq_some_iff.mp H
 obtain ⟨t495, A30, H⟩ := H
 try dsimp only at H
 have A3 := Aside0.mk A30
 clear A30
 by_cases c4 : t495 = 0
 ·rw [if_pos c4] at H
  have c4b0 : (t495 == 0) = true := beq_iff_eq.mpr c4
  have c4b1 : (t495 != 0) = false := bne_eq_false_iff_eq.mpr c4
  clear c4
  replace H := Option.bind_eq_some_iff.mp H
  obtain ⟨⟨t496, t497⟩, A50, H⟩ := H
  try dsimp only at H
  have A5 := Aside0.mk A50
  clear A50
  replace H := Option.bind_eq_some_iff.mp H
  obtain ⟨t498, A60, H⟩ := H
  try dsimp only at H
  have A6 := Aside0.mk A60
  clear A60
  simp only [Option.some.injEq, Prod.mk.injEq] at H
  obtain ⟨rfl, rfl⟩ := H
  go_enter Tryz.func44, Tryz.ntmps44
  go_wp2_with (first | ((with_reducible refine gate_callee (f := 27) rfl ?_); refine goesK (some 9) Tryz.func27 [.slice A0 l0.length c0, .slice A1 l1.length c1] rfl rfl ?_; (with_reducible refine (monzo_Check.calls k _ _ l0 (fun k_ => k_ < w.heap.size) _ _ l1 t495 _ ?side1 ?side2 ?side3 A3.out).mono ?_); (case side1 => apply_rules [HR0.out, Kd.C_alloc, Kd.C_drewN, Kd.C_drew]); (case side2 => exact HC0.out); (case side3 => exact Kd.V_mk HC1.out (Kd.F_below (Kd.C_F (Kd.heap_int .i64) HR1.out) (by apply_rules [HB.out, below_alloc, pw_below_drewN, below_drew1]))); rintro e w7 ⟨rfl, hb⟩; refine ⟨_, rfl, ?_⟩; replace HB := Aside0.mk (below_step (by apply_rules [HB.out, below_alloc, pw_below_drewN, below_drew1]) hb); (try clear hb)) | ((with_reducible refine gate_callee (f := 105) rfl ?_); refine goesK (some 15) Tryz.func105 [.slice A0 l0.length c0, .slice A1 l1.length c1] rfl rfl ?_; (with_reducible refine (monzo_sides.calls k _ _ l0 _ _ l1 t496 t497 _ ?side1 ?side2 ?side3 ?side4 ?side5 A5.out).mono ?_); (case side1 => refine TabW.below hT ?_; apply_rules [HB.out, below_alloc, pw_below_drewN, below_drew1]); (case side2 => apply_rules [(Kd.C_below HR0.out HB.out), Kd.C_alloc, Kd.C_drewN, Kd.C_drew]); (case side3 => exact HC0.out); (case side4 => apply_rules [(Kd.C_below HR1.out HB.out), Kd.C_alloc, Kd.C_drewN, Kd.C_drew]); (case side5 => exact HC1.out); rintro e w8 ⟨rfl, hb⟩; refine ⟨_, rfl, ?_⟩; replace HB := Aside0.mk (below_step (by apply_rules [HB.out, below_alloc, pw_below_drewN, below_drew1]) hb); (try clear hb)) | ((with_reducible refine gate_callee (f := 114) rfl ?_); refine goesK (some 18) Tryz.func114 [.string t496, .string t497] rfl rfl ?_; (with_reducible refine (decimal_Compare.calls t496 t497 t498 _ A6.out).mono ?_); rintro e w9 ⟨rfl, hb⟩; refine ⟨_, rfl, ?_⟩; replace HB := Aside0.mk (below_step (by apply_rules [HB.out, below_alloc, pw_below_drewN, below_drew1]) hb); (try clear hb)))
  go_ret2
  exact ⟨by first | rfl | simp [*], by apply_rules [HB.out, below_alloc, pw_below_drewN, below_drew1]⟩
 ·rw [if_neg c4] at H
  have c4b0 : (t495 == 0) = false := beq_eq_false_iff_ne.mpr c4
  have c4b1 : (t495 != 0) = true := bne_iff_ne.mpr c4
  simp only [Option.some.injEq, Prod.mk.injEq] at H
  obtain ⟨rfl, rfl⟩ := H
  go_enter Tryz.func44, Tryz.ntmps44
  go_wp2_with (first | ((with_reducible refine gate_callee (f := 27) rfl ?_); refine goesK (some 9) Tryz.func27 [.slice A0 l0.length c0, .slice A1 l1.length c1] rfl rfl ?_; (with_reducible refine (monzo_Check.calls k _ _ l0 (fun k_ => k_ < w.heap.size) _ _ l1 t495 _ ?side1 ?side2 ?side3 A3.out).mono ?_); (case side1 => apply_rules [HR0.out, Kd.C_alloc, Kd.C_drewN, Kd.C_drew]); (case side2 => exact HC0.out); (case side3 => exact Kd.V_mk HC1.out (Kd.F_below (Kd.C_F (Kd.heap_int .i64) HR1.out) (by apply_rules [HB.out, below_alloc, pw_below_drewN, below_drew1]))); rintro e w10 ⟨rfl, hb⟩; refine ⟨_, rfl, ?_⟩; replace HB := Aside0.mk (below_step (by apply_rules [HB.out, below_alloc, pw_below_drewN, below_drew1]) hb); (try clear hb)))
  go_ret2
  exact ⟨by first | rfl | simp [*], by apply_rules [HB.out, below_alloc, pw_below_drewN, below_drew1]⟩
end Go.Proofs.YtccebdpjdpjgnaaGreatDoor.P
end
