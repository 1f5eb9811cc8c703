/-
parts of the walks and of the plain laws: PslicesReversebytebyte Pdecimalpiecestext
-/
import Derived.Test.YtccebdpjdpjgnaaGreatDoorBL06
set_option linter.unusedVariables false
set_option linter.unusedSimpArgs false
section
namespace Go.Proofs.YtccebdpjdpjgnaaGreatDoor.P
open Go.RowKit Go.Proofs.YtccebdpjdpjgnaaGreatDoorW.PrintWords Go.Proofs.YtccebdpjdpjgnaaGreatDoorW.PrintLast Go.Proofs.YtccebdpjdpjgnaaGreatDoorW.PrintMore
attribute [local go_sem] max2_int min2_int max_two min_two max_three min_three max_four min_four
def slices_Reverse_byte_byte.l0 : Nat → List Int → Int → Int → Option (List Int)
 | 0, _, _, _ => none
 | k + 1, x0, x2, x3 => if x2 < x3 then (if 0 ≤ x3 then (if x3 < (x0.length : Int) then (if 0 ≤ x2 then (if x2 < (x0.length : Int) then (slices_Reverse_byte_byte.l0 k ((x0.set (x2 : Int).toNat (rd x0 x3)).set (x3 : Int).toNat (rd x0 x2)) (wrap64 (x2 + 1)) (wrap64 (x3 - 1))) else (none)) else (none)) else (none)) else (none)) else (some x0)
def slices_Reverse_byte_byte.f (k : Nat) (l0 : List Int) : Option (List Int) := slices_Reverse_byte_byte.l0 k l0 0 (wrap64 ((l0.length : Int) - 1))
theorem slices_Reverse_byte_byte.mono_l : ∀ k, (∀ y0 y1 y2, LeO (slices_Reverse_byte_byte.l0 k y0 y1 y2) (slices_Reverse_byte_byte.l0 (k + 1) y0 y1 y2))
 | 0 => fun _ _ _ r h => by simp [slices_Reverse_byte_byte.l0] at h
 | k + 1 => by
  have ih0 := slices_Reverse_byte_byte.mono_l k
  ·intro y0 y1 y2
   unfold slices_Reverse_byte_byte.l0
   repeat' first
   | (with_reducible exact ih0 _ _ _)
   | (with_reducible exact LeO.refl _)
   | (with_reducible exact LeO.none _)
   | (with_reducible refine LeO.ite ?_ ?_)
   | (with_reducible refine LeO.bind ?_ (fun _ => ?_))
theorem slices_Reverse_byte_byte.mono : ∀ a0 k, LeO (slices_Reverse_byte_byte.f k a0) (slices_Reverse_byte_byte.f (k + 1) a0) := by
 intro a0 k
 have ih0 := slices_Reverse_byte_byte.mono_l k
 unfold slices_Reverse_byte_byte.f
 repeat' first
   | (with_reducible exact ih0 _ _ _)
   | (with_reducible exact LeO.refl _)
   | (with_reducible exact LeO.none _)
   | (with_reducible refine LeO.ite ?_ ?_)
   | (with_reducible refine LeO.bind ?_ (fun _ => ?_))
def slices_Reverse_byte_byte.T3 : Bool × List (List Nat × List Nat) := (true, [([], []), ([], []), ([], []), ([], []), ([], []), ([], []), ([4, 5], [4, 5]), ([6], [6]), ([], []), ([], []), ([8, 9], [8, 9]), ([10], [10]), ([0, 1, 0, 1, 4, 5, 6, 7, 11], [0, 1]), ([12, 7, 0, 1, 4, 5, 6, 7, 11], [7, 12]), ([2, 3, 0, 1, 2, 3, 4, 5, 6, 7, 8, 9, 10, 11, 12, 13], [2, 3]), ([14, 11, 13, 0, 1, 2, 3, 4, 5, 6, 7, 8, 9, 10, 11, 12, 13], [11, 14])])
def slices_Reverse_byte_byte.B3 : List Nat := [0, 0, 0, 0, 0, 0, 48, 112, 0, 0, 768, 1792, 4083, 8179, 16383, 32767]
theorem slices_Reverse_byte_byte.tab3 : rtab .any (opsOf Tryz.f174 3) = slices_Reverse_byte_byte.T3 := by kernel_rfl
theorem slices_Reverse_byte_byte.bits3 : waitsOk slices_Reverse_byte_byte.T3.2 slices_Reverse_byte_byte.B3 = true := by kernel_rfl
set_option maxHeartbeats 8000000 in
set_option maxRecDepth 100000 in
theorem slices_Reverse_byte_byte.calls (k : Nat) (P0_ : Nat → Prop) (u9000_ : Value) (l0 : List Int) (r : List Int) (w0 w : World) (hB : Below w0.heap.size w0 w) (ho0 : Kd.R (Kd.int .u8) 5 w w0.heap.size P0_ u9000_ l0) (h : slices_Reverse_byte_byte.f k l0 = some r) :
  Calls Tryz.prog 174 #[u9000_] w fun e w' => e = .returned (.tuple #[]) ∧ Kd.R (Kd.int .u8) 5 w' w0.heap.size (fun k_ => (P0_ k_ ∨ w.heap.size ≤ k_)) u9000_ r ∧ Below w0.heap.size w0 w' ∧ Kept w w' (fun k_ => P0_ k_) := by
 have HO0 := Aside0.mk (show Kd.R (Kd.int .u8) 5 w w0.heap.size (fun k_ => (P0_ k_ ∨ w.heap.size ≤ k_)) u9000_ l0 from Kd.R_mono ho0 (fun k_ hk => (.inl hk)))
 have HK := Aside0.mk (Kept.refl w (fun k_ => P0_ k_))
 have HW0 := Aside0.mk hB.size
 have HB := Aside0.mk hB
 clear hB
 have H : (slices_Reverse_byte_byte.l0 k l0 0 (wrap64 ((l0.length : Int) - 1))) = some r := h
 clear h
 have H' := Aside0.mk H
 clear H
 obtain ⟨Ao2, co2, eo2⟩ := Kd.R_slice HO0.out
 subst eo2
 go_enter Tryz.func174, Tryz.ntmps174
 go_wp2
 go_loopg [2, 3] k (fun kq v2 v3 w' => ∃ (x0_1 : List Int) (x2_1 : Int) (x3_1 : Int), v2 = .int .i64 x2_1 ∧ v3 = .int .i64 x3_1 ∧ Aside0 (slices_Reverse_byte_byte.l0 kq x0_1 x2_1 x3_1 = some r) ∧ Aside0 (kq ≤ k) ∧ Aside0 (Kd.R (Kd.int .u8) 5 w' w0.heap.size (fun k_ => (P0_ k_ ∨ w.heap.size ≤ k_)) (.slice Ao2 l0.length co2) x0_1) ∧ Aside0 (Kept w w' (fun k_ => P0_ k_)) ∧ Aside0 (Below w0.heap.size w0 w'))
 case atStart => exact ⟨(l0), (0), (wrap64 ((l0.length : Int) - 1)), (by first | rfl | (simp; done) | (simp [*]; done)), (by first | rfl | (simp; done) | (simp [*]; done)), H', ⟨Nat.le_refl _⟩, ⟨by apply_rules [HO0.out, Kd.R_alloc, Kd.R_drewN, Kd.R_drew]⟩, ⟨by repeat (first | (with_reducible first | exact HK.out | apply Kept.alloc | apply Kept.drewN | apply Kept.drew) | exact HK.out)⟩, ⟨by apply_rules [HB.out, below_alloc, pw_below_drewN, below_drew1]⟩⟩
 case round =>
  clear H'
  obtain ⟨x0_1, x2_1, x3_1, rfl, rfl, HA, HK1, HO_0, HK, HB⟩ := hrel
  have hl0_1 := (Kd.R_reads' HO_0.out).1
  rw [hl0_1] at HO_0
  (try simp only [hl0_1])
  cases gk with
  | zero => exact absurd HA.out (by simp [slices_Reverse_byte_byte.l0])
  | succ k1 =>
   have H := HA.out
   clear HA
   simp only [slices_Reverse_byte_byte.l0] at H
   by_cases c3 : x2_1 < x3_1
   ·rw [if_pos c3] at H
    have c3b0 : decide (x2_1 < x3_1) = true := decide_eq_true c3
    clear c3
    by_cases c4 : 0 ≤ x3_1
    case neg => rw [if_neg c4] at H; exact absurd H (by simp)
    rw [if_pos c4] at H
    have c4b0 : decide (0 ≤ x3_1) = true := decide_eq_true c4
    clear c4
    by_cases c5 : x3_1 < (x0_1.length : Int)
    case neg => rw [if_neg c5] at H; exact absurd H (by simp)
    rw [if_pos c5] at H
    have c5b0 : decide (x3_1 < (x0_1.length : Int)) = true := decide_eq_true c5
    clear c5
    by_cases c6 : 0 ≤ x2_1
    case neg => rw [if_neg c6] at H; exact absurd H (by simp)
    rw [if_pos c6] at H
    have c6b0 : decide (0 ≤ x2_1) = true := decide_eq_true c6
    clear c6
    by_cases c7 : x2_1 < (x0_1.length : Int)
    case neg => rw [if_neg c7] at H; exact absurd H (by simp)
    rw [if_pos c7] at H
    have c7b0 : decide (x2_1 < (x0_1.length : Int)) = true := decide_eq_true c7
    clear c7
    obtain ⟨y155, hy155⟩ : ∃ y_ : List Int, y_ = (x0_1.set (x2_1 : Int).toNat (rd x0_1 x3_1)) := ⟨_, rfl⟩
    replace H : (slices_Reverse_byte_byte.l0 k1 (y155.set (x3_1 : Int).toNat (rd x0_1 x2_1)) (wrap64 (x2_1 + 1)) (wrap64 (x3_1 - 1))) = some r := by first | (rw [hy155]; with_reducible exact H) | (have H2_ := (Option.bind_some _ _).symm.trans H; rw [hy155]; with_reducible exact H2_) | (have H2_ := (Option.bind_some _ _).symm.trans H; with_reducible exact H2_) | with_reducible exact H | (rw [hy155]; exact H) | exact H
    have Ny155 := Aside0.mk hy155
    clear hy155
    obtain ⟨y156, hy156⟩ : ∃ y_ : List Int, y_ = (y155.set (x3_1 : Int).toNat (rd x0_1 x2_1)) := ⟨_, rfl⟩
    replace H : (slices_Reverse_byte_byte.l0 k1 y156 (wrap64 (x2_1 + 1)) (wrap64 (x3_1 - 1))) = some r := by first | (rw [hy156]; with_reducible exact H) | (have H2_ := (Option.bind_some _ _).symm.trans H; rw [hy156]; with_reducible exact H2_) | (have H2_ := (Option.bind_some _ _).symm.trans H; with_reducible exact H2_) | with_reducible exact H | (rw [hy156]; exact H) | exact H
    have Ny156 := Aside0.mk hy156
    clear hy156
    have H' := Aside0.mk H
    clear H
    try go_wp2
    have n0_ := Aside0.mk (Kd.R_drew HO_0.out)
    have n1_ := Aside0.mk (Kept.drew HK.out)
    have n2_ := Aside0.mk (below_drew1 HB.out)
    clear HO_0
    clear HK
    clear HB
    have HO_0 := n0_
    have HK := n1_
    have HB := n2_
    clear n0_ n1_ n2_
    have p153 : 0 ≤ (x3_1 : Int) := of_decide_eq_true (by assumption)
    have q153 : x3_1 < (x0_1.length : Int) := of_decide_eq_true (by assumption)
    obtain ⟨ad153, e153, hx153_0⟩ := Kd.at_int (Kd.R_reads' HO_0.out).2.2 x3_1 p153 q153
    cases e153
    replace p153 := eq_true p153
    replace q153 := eq_true q153
    have p154 : 0 ≤ (x2_1 : Int) := of_decide_eq_true (by assumption)
    have q154 : x2_1 < (x0_1.length : Int) := of_decide_eq_true (by assumption)
    obtain ⟨ad154, e154, hx154_0⟩ := Kd.at_int (Kd.R_reads' HO_0.out).2.2 x2_1 p154 q154
    obtain rfl : ad153 = ad154 := (by injection e154)
    replace p154 := eq_true p154
    replace q154 := eq_true q154
    have p8 : 0 ≤ (x2_1 : Int) := of_decide_eq_true (by assumption)
    have q8 : (x2_1 : Int) < ((x0_1.length : Int) : Int) := of_decide_eq_true (by assumption)
    obtain ⟨go8, co8, eo8, gb8, gl8, cl8, HG8⟩ := Kd.R_form HO_0.out (by omega)
    (first | cases eo8 | (injection eo8 with ea_ en_ ec_; (first | subst ea_ | (injection ea_ with ea_; subst ea_)); subst ec_; clear en_))
    have GB8 := Aside0.mk gb8
    have GG8 := Aside0.mk HG8
    clear gb8 gl8 HG8
    have HMgo8 := Aside0.mk (show (P0_ go8 ∨ w.heap.size ≤ go8) from (HO_0.out.1 _ rfl))
    (first | simp only [add_plain] at hx153_0 | skip)
    (first | simp only [add_plain] at hx154_0 | skip)
    obtain ⟨hx8_0, hf8_0⟩ := Kd.R_celln 0 HO_0.out (x2_1 : Int) p8 q8
    replace p8 := eq_true p8
    replace q8 := eq_true q8
    have HP11 := Kd.R_putn HO_0.out (x2_1 : Int) (rd x0_1 x3_1)
    rw [← Ny155.out] at HP11
    have HQ11 := Aside0.mk HP11
    clear HP11
    have p9 : 0 ≤ (x3_1 : Int) := of_decide_eq_true (by assumption)
    have q9 : (x3_1 : Int) < ((x0_1.length : Int) : Int) := of_decide_eq_true (by assumption)
    obtain ⟨hx9_0, hf9_0⟩ := Kd.R_celln 0 HQ11.out (x3_1 : Int) p9 q9
    replace p9 := eq_true p9
    replace q9 := eq_true q9
    have HP12 := Kd.R_putn HQ11.out (x3_1 : Int) (rd x0_1 x2_1)
    rw [← Ny156.out] at HP12
    have HQ12 := Aside0.mk HP12
    clear HP12
    refine start_ (n := 16) (S := fun w' => w'.cell? ⟨go8, (x3_1).toNat, none⟩ = some (.int .u8 (rd x0_1 x3_1)) ∧ w'.cell? ⟨go8, (x2_1).toNat, none⟩ = some (.int .u8 (rd x0_1 x2_1))) (ds := [13, 15]) #[false, false, false, false, false, false, false, false, false, false, false, false, false, false, false, false] (by kernel_rfl) rfl rfl ⟨hx153_0, hx154_0⟩ (fun hHeld => ?_); refine with_tabW slices_Reverse_byte_byte.tab3 slices_Reverse_byte_byte.bits3 (fun HT_ HW_ => ?_)
    generalize wr.drew = w10 at HO_0 HK HB GG8 HQ11 HQ12 hf8_0 hf9_0 hx153_0 hx154_0 hx8_0 hx9_0 hHeld ⊢
    refine pure_ (i := 0) (N := some 14) (v := ?_) (a' := ?_) #[true, false, false, false, false, false, false, false, false, false, false, false, false, false, false, false] rfl rfl (any_of HT_.out (by kernel_rfl)) (fun _ _ _ h => h) (Or.inl ⟨by rfl, ?_⟩) ?_ ?_
    rotate_left
    ·intro w'
     go_simp
     with_reducible rfl
    rotate_left
    ·simp only [Act.put, List.setIfInBounds_toArray, List.set_cons_zero, List.set_cons_succ, i64_w, i32_w]
     rfl
    refine pure_ (i := 1) (N := some 15) (v := ?_) (a' := ?_) #[true, true, false, false, false, false, false, false, false, false, false, false, false, false, false, false] rfl rfl (any_of HT_.out (by kernel_rfl)) (fun _ _ _ h => h) (Or.inl ⟨by rfl, ?_⟩) ?_ ?_
    rotate_left
    ·intro w'
     go_simp
     with_reducible rfl
    rotate_left
    ·simp only [Act.put, List.setIfInBounds_toArray, List.set_cons_zero, List.set_cons_succ, i64_w, i32_w]
     rfl
    refine pure_ (i := 2) (N := some 16) (v := ?_) (a' := ?_) #[true, true, true, false, false, false, false, false, false, false, false, false, false, false, false, false] rfl rfl (any_of HT_.out (by kernel_rfl)) (fun _ _ _ h => h) (Or.inl ⟨by rfl, ?_⟩) ?_ ?_
    rotate_left
    ·intro w'
     go_simp
     with_reducible rfl
    rotate_left
    ·simp only [Act.put, List.setIfInBounds_toArray, List.set_cons_zero, List.set_cons_succ, i64_w, i32_w]
     rfl
    refine pure_ (i := 3) (N := some 17) (v := ?_) (a' := ?_) #[true, true, true, true, false, false, false, false, false, false, false, false, false, false, false, false] rfl rfl (any_of HT_.out (by kernel_rfl)) (fun _ _ _ h => h) (Or.inl ⟨by rfl, ?_⟩) ?_ ?_
    rotate_left
    ·intro w'
     go_simp
     with_reducible rfl
    rotate_left
    ·simp only [Act.put, List.setIfInBounds_toArray, List.set_cons_zero, List.set_cons_succ, i64_w, i32_w]
     rfl
    refine pure_ (i := 4) (N := some 18) (v := ?_) (a' := ?_) #[true, true, true, true, true, false, false, false, false, false, false, false, false, false, false, false] rfl rfl (any_of HT_.out (by kernel_rfl)) (fun _ _ _ h => h) (Or.inl ⟨by rfl, ?_⟩) ?_ ?_
    rotate_left
    ·intro w'
     go_simp
     with_reducible rfl
    rotate_left
    ·simp only [Act.put, List.setIfInBounds_toArray, List.set_cons_zero, List.set_cons_succ, i64_w, i32_w]
     rfl
    refine pure_ (i := 5) (N := some 19) (v := ?_) (a' := ?_) #[true, true, true, true, true, true, false, false, false, false, false, false, false, false, false, false] rfl rfl (any_of HT_.out (by kernel_rfl)) (fun _ _ _ h => h) (Or.inl ⟨by rfl, ?_⟩) ?_ ?_
    rotate_left
    ·intro w'
     go_simp
     with_reducible rfl
    rotate_left
    ·simp only [Act.put, List.setIfInBounds_toArray, List.set_cons_zero, List.set_cons_succ, i64_w, i32_w]
     rfl
    refine pure_ (i := 6) (N := some 20) (v := ?_) (a' := ?_) #[true, true, true, true, true, true, true, false, false, false, false, false, false, false, false, false] rfl rfl (any_of HT_.out (by kernel_rfl)) (fun _ _ _ h => h) (Or.inl ⟨by rfl, ?_⟩) ?_ ?_
    rotate_left
    ·intro w'
     go_simp
     with_reducible rfl
    rotate_left
    ·simp only [Act.put, List.setIfInBounds_toArray, List.set_cons_zero, List.set_cons_succ, i64_w, i32_w]
     rfl
    refine pure_ (i := 8) (N := some 22) (v := ?_) (a' := ?_) #[true, true, true, true, true, true, true, false, true, false, false, false, false, false, false, false] rfl rfl (any_of HT_.out (by kernel_rfl)) (fun _ _ _ h => h) (Or.inl ⟨by rfl, ?_⟩) ?_ ?_
    rotate_left
    ·intro w'
     go_simp
     with_reducible rfl
    rotate_left
    ·simp only [Act.put, List.setIfInBounds_toArray, List.set_cons_zero, List.set_cons_succ, i64_w, i32_w]
     rfl
    refine pure_ (i := 9) (N := some 23) (v := ?_) (a' := ?_) #[true, true, true, true, true, true, true, false, true, true, false, false, false, false, false, false] rfl rfl (any_of HT_.out (by kernel_rfl)) (fun _ _ _ h => h) (Or.inl ⟨by rfl, ?_⟩) ?_ ?_
    rotate_left
    ·intro w'
     go_simp
     with_reducible rfl
    rotate_left
    ·simp only [Act.put, List.setIfInBounds_toArray, List.set_cons_zero, List.set_cons_succ, i64_w, i32_w]
     rfl
    refine pure_ (i := 10) (N := some 24) (v := ?_) (a' := ?_) #[true, true, true, true, true, true, true, false, true, true, true, false, false, false, false, false] rfl rfl (any_of HT_.out (by kernel_rfl)) (fun _ _ _ h => h) (Or.inl ⟨by rfl, ?_⟩) ?_ ?_
    rotate_left
    ·intro w'
     go_simp
     with_reducible rfl
    rotate_left
    ·simp only [Act.put, List.setIfInBounds_toArray, List.set_cons_zero, List.set_cons_succ, i64_w, i32_w]
     rfl
    refine take_ (i := 7) (N := some 21) (v := ?_) (a' := ?_) #[true, true, true, true, true, true, true, true, true, true, true, false, false, false, false, false] rfl rfl (take_ofW HT_.out HW_.out (by kernel_rfl)) (fun _ _ _ h => h) (Or.inl ⟨by rfl, ?_⟩) hHeld ?_ ?_
    rotate_left
    ·rintro w' ⟨s0, s1⟩
     go_simp
     with_reducible rfl
    rotate_left
    ·simp only [Act.put, List.setIfInBounds_toArray, List.set_cons_zero, List.set_cons_succ, i64_w, i32_w]
     rfl
    refine take_ (i := 11) (N := some 25) (v := ?_) (a' := ?_) #[true, true, true, true, true, true, true, true, true, true, true, true, false, false, false, false] rfl rfl (take_ofW HT_.out HW_.out (by kernel_rfl)) (fun _ _ _ h => h) (Or.inl ⟨by rfl, ?_⟩) hHeld ?_ ?_
    rotate_left
    ·rintro w' ⟨s0, s1⟩
     go_simp
     with_reducible rfl
    rotate_left
    ·simp only [Act.put, List.setIfInBounds_toArray, List.set_cons_zero, List.set_cons_succ, i64_w, i32_w]
     rfl
    refine pure_ (i := 12) (N := some 26) (v := ?_) (a' := ?_) #[true, true, true, true, true, true, true, true, true, true, true, true, true, false, false, false] rfl rfl (any_of HT_.out (by kernel_rfl)) (fun _ _ _ h => h) (Or.inl ⟨by rfl, ?_⟩) ?_ ?_
    rotate_left
    ·intro w'
     go_simp
     with_reducible rfl
    rotate_left
    ·simp only [Act.put, List.setIfInBounds_toArray, List.set_cons_zero, List.set_cons_succ, i64_w, i32_w]
     rfl
    refine last_ (i := 13) (N := none) #[true, true, true, true, true, true, true, true, true, true, true, true, true, true, false, false] rfl rfl (one_of HT_.out (by kernel_rfl)) (by decide) (fun K hK => ?_)
    refine skip_ (w1 := ?_) (by rfl) rfl ?_ ?_
    rotate_left
    ·go_simp
     rfl
    refine hK.out _ _ ?_
    clear hK K
    refine pure_ (i := 14) (N := some 27) (v := ?_) (a' := ?_) #[true, true, true, true, true, true, true, true, true, true, true, true, true, true, true, false] rfl rfl (any_of HT_.out (by kernel_rfl)) (fun _ _ _ h => h) (Or.inl ⟨by rfl, ?_⟩) ?_ ?_
    rotate_left
    ·intro w'
     go_simp
     with_reducible rfl
    rotate_left
    ·simp only [Act.put, List.setIfInBounds_toArray, List.set_cons_zero, List.set_cons_succ, i64_w, i32_w]
     rfl
    refine last_ (i := 15) (N := none) #[true, true, true, true, true, true, true, true, true, true, true, true, true, true, true, true] rfl rfl (one_of HT_.out (by kernel_rfl)) (by decide) (fun K hK => ?_)
    refine skip_ (w1 := ?_) (by rfl) rfl ?_ ?_
    rotate_left
    ·go_simp
     rfl
    refine hK.out _ _ ?_
    clear hK K
    refine done_ (done_of HT_.out (by kernel_rfl)) ?_
    try go_wp2
    (try simp only [← hl0_1])
    go_roundg k1
    case measure => have := HK1.out; omega
    case rel => exact ⟨(y156), (wrap64 (x2_1 + 1)), (wrap64 (x3_1 - 1)), (by first | rfl | (simp; done) | (simp [*]; done)), (by first | rfl | (simp; done) | (simp [*]; done)), H', ⟨by have := HK1.out; omega⟩, ⟨by (try simp only [hl0_1]); apply_rules [HQ12.out, Kd.R_alloc, Kd.R_drewN, Kd.R_drew]⟩, ⟨by repeat (first | (with_reducible first | exact HK.out | apply Kept.alloc | apply Kept.drewN | apply Kept.drew | refine Kept.setCell ?_ HMgo8.out _ | refine Kept.setCell ?_ HMgo8.out _) | exact HK.out)⟩, ⟨by apply_rules [HB.out, below_alloc, pw_below_drewN, below_drew1, below_set, GB8.out, GB8.out]⟩⟩
   ·rw [if_neg c3] at H
    have c3b0 : decide (x2_1 < x3_1) = false := decide_eq_false c3
    clear c3
    obtain rfl := Option.some.inj H
    go_wp2
    first | go_end0 | ((try simp only [Exit.inBlock, Exit.then]); refine bodyPost_ret (results_none rfl _ _ _) rfl ?_)
    exact ⟨by first | rfl | simp [*], (by first | exact (by apply_rules [HO_0.out, Kd.R_alloc, Kd.R_drewN, Kd.R_drew]) | (simp only [hl0_1]; exact (by apply_rules [HO_0.out, Kd.R_alloc, Kd.R_drewN, Kd.R_drew]))), by apply_rules [HB.out, below_alloc, pw_below_drewN, below_drew1], by repeat (first | (with_reducible first | exact HK.out | apply Kept.alloc | apply Kept.drewN | apply Kept.drew) | exact HK.out)⟩
end Go.Proofs.YtccebdpjdpjgnaaGreatDoor.P
end
section
namespace Go.Proofs.YtccebdpjdpjgnaaGreatDoor.P
open Go.RowKit Go.Proofs.YtccebdpjdpjgnaaGreatDoorW.PrintWords Go.Proofs.YtccebdpjdpjgnaaGreatDoorW.PrintLast Go.Proofs.YtccebdpjdpjgnaaGreatDoorW.PrintMore
attribute [local go_sem] max2_int min2_int max_two min_two max_three min_three max_four min_four
mutual
def decimal_pieces_text.l0 : Nat → List Int → List Int → List Int → Int → Int → Option (ByteArray)
 | 0, _, _, _, _, _ => none
 | k + 1, x0, x3, x14, x15, x16 => if x16 < x15 then (if 0 ≤ x16 then (if x16 < (x14.length : Int) then (decimal_pieces_text.l1 k x0 x3 x16 (rd x14 x16) 0 x14 x15 x16) else (none)) else (none)) else ((slices_Reverse_byte_byte.f k x3).bind fun t160 => (some (strOfNums t160)))
def decimal_pieces_text.l1 : Nat → List Int → List Int → Int → Int → Int → List Int → Int → Int → Option (ByteArray)
 | 0, _, _, _, _, _, _, _, _ => none
 | k + 1, x0, x3, x4, x5, x6, x14, x15, x16 => if x6 < 9 then (if (wrap64 (x4 + 1)) < (x0.length : Int) then (if x3.length < 140737488355328 then (decimal_pieces_text.l1 k x0 (x3 ++ [(IntKind.u64.wrap (48 + (Int.tmod x5 10))) % 256]) x4 (IntKind.u64.wrap (Int.tdiv x5 10)) (wrap64 (x6 + 1)) x14 x15 x16) else (none)) else (if x5 > 0 then (if x3.length < 140737488355328 then (decimal_pieces_text.l1 k x0 (x3 ++ [(IntKind.u64.wrap (48 + (Int.tmod x5 10))) % 256]) x4 (IntKind.u64.wrap (Int.tdiv x5 10)) (wrap64 (x6 + 1)) x14 x15 x16) else (none)) else (decimal_pieces_text.l0 k x0 x3 x14 x15 (wrap64 (x16 + 1))))) else (decimal_pieces_text.l0 k x0 x3 x14 x15 (wrap64 (x16 + 1)))
end
def decimal_pieces_text.f (k : Nat) (l0 : List Int) : Option (ByteArray) := if (l0.length : Int) = 0 then (some (⟨#[48]⟩ : ByteArray)) else (if 0 ≤ (wrap64 (9 * (l0.length : Int))) then (if (wrap64 (9 * (l0.length : Int)) : Int).toNat ≤ 281474976710656 then (decimal_pieces_text.l0 k l0 (([] : List Int)) l0 (l0.length : Int) 0) else (none)) else (none))
theorem decimal_pieces_text.mono_l : ∀ k, (∀ y0 y1 y2 y3 y4, LeO (decimal_pieces_text.l0 k y0 y1 y2 y3 y4) (decimal_pieces_text.l0 (k + 1) y0 y1 y2 y3 y4)) ∧ (∀ y0 y1 y2 y3 y4 y5 y6 y7, LeO (decimal_pieces_text.l1 k y0 y1 y2 y3 y4 y5 y6 y7) (decimal_pieces_text.l1 (k + 1) y0 y1 y2 y3 y4 y5 y6 y7))
 | 0 => ⟨fun _ _ _ _ _ r h => by simp [decimal_pieces_text.l0] at h, fun _ _ _ _ _ _ _ _ r h => by simp [decimal_pieces_text.l1] at h⟩
 | k + 1 => by
  obtain ⟨ih0, ih1⟩ := decimal_pieces_text.mono_l k
  refine ⟨?_, ?_⟩
  ·intro y0 y1 y2 y3 y4
   unfold decimal_pieces_text.l0
   repeat' first
   | (with_reducible exact ih0 _ _ _ _ _)
   | (with_reducible exact ih1 _ _ _ _ _ _ _ _)
   | (with_reducible exact slices_Reverse_byte_byte.mono _ _)
   | (with_reducible exact LeO.refl _)
   | (with_reducible exact LeO.none _)
   | (with_reducible refine LeO.ite ?_ ?_)
   | (with_reducible refine LeO.bind ?_ (fun _ => ?_))
  ·intro y0 y1 y2 y3 y4 y5 y6 y7
   unfold decimal_pieces_text.l1
   repeat' first
   | (with_reducible exact ih0 _ _ _ _ _)
   | (with_reducible exact ih1 _ _ _ _ _ _ _ _)
   | (with_reducible exact slices_Reverse_byte_byte.mono _ _)
   | (with_reducible exact LeO.refl _)
   | (with_reducible exact LeO.none _)
   | (with_reducible refine LeO.ite ?_ ?_)
   | (with_reducible refine LeO.bind ?_ (fun _ => ?_))
theorem decimal_pieces_text.mono : ∀ a0 k, LeO (decimal_pieces_text.f k a0) (decimal_pieces_text.f (k + 1) a0) := by
 intro a0 k
 obtain ⟨ih0, ih1⟩ := decimal_pieces_text.mono_l k
 unfold decimal_pieces_text.f
 repeat' first
   | (with_reducible exact ih0 _ _ _ _ _)
   | (with_reducible exact ih1 _ _ _ _ _ _ _ _)
   | (with_reducible exact slices_Reverse_byte_byte.mono _ _)
   | (with_reducible exact LeO.refl _)
   | (with_reducible exact LeO.none _)
   | (with_reducible refine LeO.ite ?_ ?_)
   | (with_reducible refine LeO.bind ?_ (fun _ => ?_))
set_option maxHeartbeats 8000000 in
set_option maxRecDepth 100000 in
theorem decimal_pieces_text.calls (k : Nat) (A0 : Option Addr) (c0 : Nat) (l0 : List Int) (r : ByteArray) (w : World) (hr0 : Kd.C (Kd.int .u64) w A0 l0.length l0) (hc0 : l0.length ≤ c0) (h : decimal_pieces_text.f k l0 = some r) :
  Calls Tryz.prog 110 #[.slice A0 l0.length c0] w fun e w' => e = .returned (.string r) ∧ Below w.heap.size w w' := by
 have HR0 := Aside0.mk hr0
 have HC0 := Aside0.mk hc0
 clear hr0 hc0
 have HB := Aside0.mk (Below.refl w.heap.size w)
 have H : (if (l0.length : Int) = 0 then (some (⟨#[48]⟩ : ByteArray)) else (if 0 ≤ (wrap64 (9 * (l0.length : Int))) then (if (wrap64 (9 * (l0.length : Int)) : Int).toNat ≤ 281474976710656 then (decimal_pieces_text.l0 k l0 (([] : List Int)) l0 (l0.length : Int) 0) else (none)) else (none))) = some r := h
 clear h
 by_cases c2 : (l0.length : Int) = 0
 ·rw [if_pos c2] at H
  have c2b0 : ((l0.length : Int) == 0) = true := beq_iff_eq.mpr c2
  have c2b1 : ((l0.length : Int) != 0) = false := bne_eq_false_iff_eq.mpr c2
  clear c2
  obtain rfl := Option.some.inj H
  go_enter Tryz.func110, Tryz.ntmps110
  go_wp2
  go_ret
  exact ⟨by first | rfl | simp [*], by apply_rules [HB.out, below_alloc, pw_below_drewN, below_drew1]⟩
 ·rw [if_neg c2] at H
  have c2b0 : ((l0.length : Int) == 0) = false := beq_eq_false_iff_ne.mpr c2
  have c2b1 : ((l0.length : Int) != 0) = true := bne_iff_ne.mpr c2
  have c2b2 : ¬ (l0 = []) := fun h_ => c2 (by rw [h_]; rfl)
  obtain ⟨ji3, hji3⟩ : ∃ j_ : Int, (wrap64 (9 * (l0.length : Int))) = j_ := ⟨_, rfl⟩
  replace H : (if 0 ≤ (ji3) then (if (ji3 : Int).toNat ≤ 281474976710656 then (decimal_pieces_text.l0 k l0 (([] : List Int)) l0 (l0.length : Int) 0) else (none)) else (none)) = some r := by first | (rw [hji3] at H; exact H) | (simp only [hji3] at H ⊢; exact H)
  have hji3w : (IntKind.i64.wrap (9 * (l0.length : Int))) = ji3 := (i64_w _).trans hji3
  by_cases c4 : 0 ≤ (ji3)
  case neg => rw [if_neg c4] at H; exact absurd H (by simp)
  rw [if_pos c4] at H
  have c4b0 := eq_true c4
  have c4b1 : decide (0 ≤ (ji3)) = true := decide_eq_true c4
  clear c4
  by_cases c5 : (ji3 : Int).toNat ≤ 281474976710656
  case neg => rw [if_neg c5] at H; exact absurd H (by simp)
  rw [if_pos c5] at H
  have c5b0 := eq_true c5
  have c5b1 : decide ((ji3 : Int).toNat ≤ 281474976710656) = true := decide_eq_true c5
  clear c5
  obtain ⟨y157, hy157⟩ : ∃ y_ : List Int, y_ = (([] : List Int)) := ⟨_, rfl⟩
  replace H : (decimal_pieces_text.l0 k l0 y157 l0 (l0.length : Int) 0) = some r := by first | (rw [hy157]; with_reducible exact H) | (have H2_ := (Option.bind_some _ _).symm.trans H; rw [hy157]; with_reducible exact H2_) | (have H2_ := (Option.bind_some _ _).symm.trans H; with_reducible exact H2_) | with_reducible exact H | (rw [hy157]; exact H) | exact H
  have Ny157 := Aside0.mk hy157
  clear hy157
  have H' := Aside0.mk H
  clear H
  go_enter Tryz.func110, Tryz.ntmps110
  go_wp2_with (first | ((with_reducible refine gate_dst (N := 13) rfl ?_); (try (refine gate_guard (by rfl) ?_; dsimp only)); refine Kd.R_makecap (Kd.int .u8) _ 5 rfl (N := 13) rfl 191 _ _ rfl ji3 rfl rfl Tryz.underlying191 (.int .u8 0) 1 info5 rfl (by decide) (by omega) (ok := fun _ => True) trivial (of_decide_eq_true (by assumption)) (Nat.le_trans (Nat.mul_le_mul_right _ (of_decide_eq_true (by assumption) : ji3.toNat ≤ 281474976710656)) (by omega)) (Below.refl _ _) (Nat.le_refl _) ?_; intro v158 w6 ho7 hb hg_ hnew_; clear hg_ hnew_; (first | rw [← Ny157.out] at ho7 | (simp only [Int.reduceToNat] at ho7; rw [← Ny157.out] at ho7)); have HO159 := Aside0.mk (Kd.R_lower ho7 (below_size (by apply_rules [HB.out, below_alloc, pw_below_drewN, below_drew1]))); replace HB := Aside0.mk (below_step (by apply_rules [HB.out, below_alloc, pw_below_drewN, below_drew1]) hb); clear hb ho7))
  go_loopg [3, 16] k (fun kq v3 v16 w' => ∃ (x3_1 : List Int) (x16_1 : Int), v16 = .int .i64 x16_1 ∧ Aside0 (decimal_pieces_text.l0 kq l0 x3_1 l0 (l0.length : Int) x16_1 = some r) ∧ Aside0 (kq ≤ k) ∧ Aside0 (Kd.R (Kd.int .u8) 5 w' w.heap.size (fun _ => True) v3 x3_1) ∧ Aside0 (Below w.heap.size w w'))
  case atStart => exact ⟨(y157), (0), (by first | rfl | (simp; done) | (simp [*]; done)), H', ⟨Nat.le_refl _⟩, ⟨by apply_rules [HO159.out, Kd.R_alloc, Kd.R_drewN, Kd.R_drew]⟩, ⟨by apply_rules [HB.out, below_alloc, pw_below_drewN, below_drew1]⟩⟩
  case round =>
   clear H'
   obtain ⟨x3_1, x16_1, rfl, HA, HK1, HO_3, HB⟩ := hrel
   cases gk with
   | zero => exact absurd HA.out (by simp [decimal_pieces_text.l0])
   | succ k1 =>
    have H := HA.out
    clear HA
    simp only [decimal_pieces_text.l0] at H
    by_cases c8 : x16_1 < (l0.length : Int)
    ·rw [if_pos c8] at H
     have c8b0 : decide (x16_1 < (l0.length : Int)) = true := decide_eq_true c8
     clear c8
     by_cases c9 : 0 ≤ x16_1
     case neg => rw [if_neg c9] at H; exact absurd H (by simp)
     rw [if_pos c9] at H
     have c9b0 : decide (0 ≤ x16_1) = true := decide_eq_true c9
     clear c9
     by_cases c10 : x16_1 < (l0.length : Int)
     case neg => rw [if_neg c10] at H; exact absurd H (by simp)
     rw [if_pos c10] at H
     have c10b0 : decide (x16_1 < (l0.length : Int)) = true := decide_eq_true c10
     clear c10
     have H' := Aside0.mk H
     clear H
     have p161 : 0 ≤ (x16_1 : Int) := of_decide_eq_true (by assumption)
     have q161 : x16_1 < (l0.length : Int) := of_decide_eq_true (by assumption)
     obtain ⟨ad161, e161, hx161_0⟩ := Kd.at_int HR0.out x16_1 p161 q161
     cases e161
     replace hx161_0 := (HB.out.cell (World.block_lt_of_cell? w _ hx161_0)).trans hx161_0
     replace p161 := eq_true p161
     replace q161 := eq_true q161
     go_wp2
     go_loopg [3, 5, 6] k1 (fun kq v3 v5 v6 w' => ∃ (x3_2 : List Int) (x5_2 : Int) (x6_2 : Int), v5 = .int .u64 x5_2 ∧ v6 = .int .i64 x6_2 ∧ Aside0 (decimal_pieces_text.l1 kq l0 x3_2 x16_1 x5_2 x6_2 l0 (l0.length : Int) x16_1 = some r) ∧ Aside0 (kq ≤ k1) ∧ Aside0 (Kd.R (Kd.int .u8) 5 w' w.heap.size (fun _ => True) v3 x3_2) ∧ Aside0 (Below w.heap.size w w'))
     case atStart => exact ⟨(x3_1), (rd l0 x16_1), (0), (by first | rfl | (simp; done) | (simp [*]; done)), (by first | rfl | (simp; done) | (simp [*]; done)), H', ⟨Nat.le_refl _⟩, ⟨by apply_rules [HO_3.out, Kd.R_alloc, Kd.R_drewN, Kd.R_drew]⟩, ⟨by apply_rules [HB.out, below_alloc, pw_below_drewN, below_drew1]⟩⟩
     case round =>
      clear H'
      obtain ⟨x3_2, x5_2, x6_2, rfl, rfl, HA, HK2, HO_3, HB⟩ := hrel
      cases gk with
      | zero => exact absurd HA.out (by simp [decimal_pieces_text.l1])
      | succ k2 =>
       have H := HA.out
       clear HA
       simp only [decimal_pieces_text.l1] at H
       by_cases c11 : x6_2 < 9
       ·rw [if_pos c11] at H
        have c11b0 : decide (x6_2 < 9) = true := decide_eq_true c11
        clear c11
        by_cases c12 : (wrap64 (x16_1 + 1)) < (l0.length : Int)
        ·rw [if_pos c12] at H
         have c12b0 : decide ((wrap64 (x16_1 + 1)) < (l0.length : Int)) = true := decide_eq_true c12
         clear c12
         by_cases c13 : x3_2.length < 140737488355328
         case neg => rw [if_neg c13] at H; exact absurd H (by simp)
         rw [if_pos c13] at H
         have LMc13 := Aside0.mk c13
         clear c13
         obtain ⟨y162, hy162⟩ : ∃ y_ : List Int, y_ = (x3_2 ++ [(IntKind.u64.wrap (48 + (Int.tmod x5_2 10))) % 256]) := ⟨_, rfl⟩
         replace H : (decimal_pieces_text.l1 k2 l0 y162 x16_1 (IntKind.u64.wrap (Int.tdiv x5_2 10)) (wrap64 (x6_2 + 1)) l0 (l0.length : Int) x16_1) = some r := by first | (rw [hy162]; with_reducible exact H) | (have H2_ := (Option.bind_some _ _).symm.trans H; rw [hy162]; with_reducible exact H2_) | (have H2_ := (Option.bind_some _ _).symm.trans H; with_reducible exact H2_) | with_reducible exact H | (rw [hy162]; exact H) | exact H
         have Ny162 := Aside0.mk hy162
         clear hy162
         have H' := Aside0.mk H
         clear H
         go_wp2_with (first | ((with_reducible refine gate_builtin (b := .append) (xs := #[.tmp 36, .tmp 41]) rfl ?_); (try (refine gate_guard (by rfl) ?_; dsimp only)); at_builtin; refine Kd.R_append (Kd.int .u8) (w0 := w) w.heap.size rfl (.tmp 36) (.tmp 41) 191 5 (.int .u8 0) 1 rfl Tryz.underlying191 info5 rfl (by decide) (by omega) u3 x3_2 ((IntKind.u64.wrap (48 + (Int.tmod x5_2 10))) % 256) [.int .u8 ((IntKind.u64.wrap (48 + (Int.tmod x5_2 10))) % 256)] (fun _ => True) (fun _ => False) rfl rfl ?aP (fun _ hk => hk.elim) ?aF ?aO ?aB ?aS ?aL ?_; (case aP => exact rfl); (case aB => exact (by apply_rules [HB.out, below_alloc, pw_below_drewN, below_drew1])); (case aF => exact (fun _ _ => trivial)); (case aO => exact (by apply_rules [HO_3.out, Kd.R_alloc, Kd.R_drewN, Kd.R_drew])); (case aS => exact (below_size (by apply_rules [HB.out, below_alloc, pw_below_drewN, below_drew1]))); (case aL => have := LMc13.out; omega); intro v163 w14 ho hb hg hat; rw [← Ny162.out] at ho; replace HB := Aside0.mk (hb); have HO164 := Aside0.mk (ho); clear HO_3; clear ho hb hg hat))
         go_roundg k2
         case measure => have := HK1.out; have := HK2.out; omega
         case rel => exact ⟨(y162), (IntKind.u64.wrap (Int.tdiv x5_2 10)), (wrap64 (x6_2 + 1)), (by first | rfl | (simp; done) | (simp [*]; done)), (by first | rfl | (simp; done) | (simp [*]; done)), H', ⟨by have := HK1.out; have := HK2.out; omega⟩, ⟨by apply_rules [HO164.out, Kd.R_alloc, Kd.R_drewN, Kd.R_drew]⟩, ⟨by apply_rules [HB.out, below_alloc, pw_below_drewN, below_drew1]⟩⟩
        ·rw [if_neg c12] at H
         have c12b0 : decide ((wrap64 (x16_1 + 1)) < (l0.length : Int)) = false := decide_eq_false c12
         clear c12
         by_cases c15 : x5_2 > 0
         ·rw [if_pos c15] at H
          have c15b0 : decide (0 < x5_2) = true := decide_eq_true c15
          clear c15
          by_cases c16 : x3_2.length < 140737488355328
          case neg => rw [if_neg c16] at H; exact absurd H (by simp)
          rw [if_pos c16] at H
          have LMc16 := Aside0.mk c16
          clear c16
          obtain ⟨y165, hy165⟩ : ∃ y_ : List Int, y_ = (x3_2 ++ [(IntKind.u64.wrap (48 + (Int.tmod x5_2 10))) % 256]) := ⟨_, rfl⟩
          replace H : (decimal_pieces_text.l1 k2 l0 y165 x16_1 (IntKind.u64.wrap (Int.tdiv x5_2 10)) (wrap64 (x6_2 + 1)) l0 (l0.length : Int) x16_1) = some r := by first | (rw [hy165]; with_reducible exact H) | (have H2_ := (Option.bind_some _ _).symm.trans H; rw [hy165]; with_reducible exact H2_) | (have H2_ := (Option.bind_some _ _).symm.trans H; with_reducible exact H2_) | with_reducible exact H | (rw [hy165]; exact H) | exact H
          have Ny165 := Aside0.mk hy165
          clear hy165
          have H' := Aside0.mk H
          clear H
          go_wp2_with (first | ((with_reducible refine gate_builtin (b := .append) (xs := #[.tmp 36, .tmp 41]) rfl ?_); (try (refine gate_guard (by rfl) ?_; dsimp only)); at_builtin; refine Kd.R_append (Kd.int .u8) (w0 := w) w.heap.size rfl (.tmp 36) (.tmp 41) 191 5 (.int .u8 0) 1 rfl Tryz.underlying191 info5 rfl (by decide) (by omega) u3 x3_2 ((IntKind.u64.wrap (48 + (Int.tmod x5_2 10))) % 256) [.int .u8 ((IntKind.u64.wrap (48 + (Int.tmod x5_2 10))) % 256)] (fun _ => True) (fun _ => False) rfl rfl ?aP (fun _ hk => hk.elim) ?aF ?aO ?aB ?aS ?aL ?_; (case aP => exact rfl); (case aB => exact (by apply_rules [HB.out, below_alloc, pw_below_drewN, below_drew1])); (case aF => exact (fun _ _ => trivial)); (case aO => exact (by apply_rules [HO_3.out, Kd.R_alloc, Kd.R_drewN, Kd.R_drew])); (case aS => exact (below_size (by apply_rules [HB.out, below_alloc, pw_below_drewN, below_drew1]))); (case aL => have := LMc16.out; omega); intro v166 w17 ho hb hg hat; rw [← Ny165.out] at ho; replace HB := Aside0.mk (hb); have HO167 := Aside0.mk (ho); clear HO_3; clear ho hb hg hat))
          go_roundg k2
          case measure => have := HK1.out; have := HK2.out; omega
          case rel => exact ⟨(y165), (IntKind.u64.wrap (Int.tdiv x5_2 10)), (wrap64 (x6_2 + 1)), (by first | rfl | (simp; done) | (simp [*]; done)), (by first | rfl | (simp; done) | (simp [*]; done)), H', ⟨by have := HK1.out; have := HK2.out; omega⟩, ⟨by apply_rules [HO167.out, Kd.R_alloc, Kd.R_drewN, Kd.R_drew]⟩, ⟨by apply_rules [HB.out, below_alloc, pw_below_drewN, below_drew1]⟩⟩
         ·rw [if_neg c15] at H
          have c15b0 : decide (0 < x5_2) = false := decide_eq_false c15
          clear c15
          have H' := Aside0.mk H
          clear H
          go_wp2
          go_roundg k2
          case measure => have := HK1.out; have := HK2.out; omega
          case rel => exact ⟨(x3_2), (wrap64 (x16_1 + 1)), (by first | rfl | (simp; done) | (simp [*]; done)), H', ⟨by have := HK1.out; have := HK2.out; omega⟩, ⟨by apply_rules [HO_3.out, Kd.R_alloc, Kd.R_drewN, Kd.R_drew]⟩, ⟨by apply_rules [HB.out, below_alloc, pw_below_drewN, below_drew1]⟩⟩
       ·rw [if_neg c11] at H
        have c11b0 : decide (x6_2 < 9) = false := decide_eq_false c11
        clear c11
        have H' := Aside0.mk H
        clear H
        go_wp2
        go_roundg k2
        case measure => have := HK1.out; have := HK2.out; omega
        case rel => exact ⟨(x3_2), (wrap64 (x16_1 + 1)), (by first | rfl | (simp; done) | (simp [*]; done)), H', ⟨by have := HK1.out; have := HK2.out; omega⟩, ⟨by apply_rules [HO_3.out, Kd.R_alloc, Kd.R_drewN, Kd.R_drew]⟩, ⟨by apply_rules [HB.out, below_alloc, pw_below_drewN, below_drew1]⟩⟩
    ·rw [if_neg c8] at H
     have c8b0 : decide (x16_1 < (l0.length : Int)) = false := decide_eq_false c8
     clear c8
     replace H := Option.bind_eq_some_iff.mp H
     obtain ⟨t160, A180, H⟩ := H
     try dsimp only at H
     have A18 := Aside0.mk A180
     clear A180
     obtain rfl := Option.some.inj H
     obtain ⟨Ao19, co19, eo19⟩ := Kd.R_slice HO_3.out
     subst eo19
     go_wp2_with (first | ((with_reducible refine gate_callee (f := 174) rfl ?_); refine goesK (some 47) Tryz.func174 [.slice Ao19 x3_1.length co19] rfl rfl ?_; (with_reducible refine (slices_Reverse_byte_byte.calls k1 (fun k_ => some k_ = (.slice Ao19 x3_1.length co19 : Value).ownBlock) (.slice Ao19 x3_1.length co19) x3_1 t160 w _ ?side1 ?side2 A18.out).mono ?_); (case side1 => apply_rules [HB.out, below_alloc, pw_below_drewN, below_drew1]); (case side2 => exact Kd.R_tight rfl HO_3.out); rintro e w20 ⟨rfl, hy0, hb, hkp⟩; refine ⟨_, rfl, ?_⟩; replace HO_3 := Aside0.mk (Kd.R_reok rfl hy0 (fun k_ e_ => HO_3.out.1 k_ e_)); replace HB := Aside0.mk (hb); (try clear hb); (try clear hkp); (try clear hy0); have hcv21 := own_string (P := Tryz.prog) Tryz.underlying191 Tryz.underlying5 Tryz.underlying36 (Kd.own_of_R HO_3.out)))
     go_ret
     exact ⟨by first | rfl | (simp [errW_none, errW_some] <;> rfl) | (simp only [← hji3]; first | rfl | (simp [errW_none, errW_some] <;> rfl)) | (simp [*, errW_none, errW_some] <;> rfl), by apply_rules [HB.out, below_alloc, pw_below_drewN, below_drew1]⟩
end Go.Proofs.YtccebdpjdpjgnaaGreatDoor.P
end
