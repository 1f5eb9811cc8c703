/-
parts of the walks and of the plain laws: Pschismalaw11isPrime Pschismalaw11all Pschismalaw11Make
-/
import Derived.Test.YtccebdpjdpjgnaaGreatDoorJN05
set_option linter.unusedVariables false
set_option linter.unusedSimpArgs false
section
namespace Go.Proofs.YtccebdpjdpjgnaaGreatDoor.P
open Go.RowKit Go.Proofs.YtccebdpjdpjgnaaGreatDoorW.PrintWords Go.Proofs.YtccebdpjdpjgnaaGreatDoorW.PrintLast Go.Proofs.YtccebdpjdpjgnaaGreatDoorW.PrintMore
attribute [local go_sem] max2_int min2_int max_two min_two max_three min_three max_four min_four
mutual
def schismalaw11_isPrime.j0 : Nat → Int → Bool → Option (Bool)
 | 0, _, _ => none
 | k + 1, x0, x9 => if x9 = true then (some false) else (schismalaw11_isPrime.l0 k x0 2)
def schismalaw11_isPrime.l0 : Nat → Int → Int → Option (Bool)
 | 0, _, _ => none
 | k + 1, x0, x3 => if x3 < x0 then (if x3 = 0 then (none) else (if (Int.tmod x0 x3) = 0 then (some false) else (schismalaw11_isPrime.l0 k x0 (wrap64 (x3 + 1))))) else (some true)
end
def schismalaw11_isPrime.f (k : Nat) (a0 : Int) : Option (Bool) := if a0 < 2 then (schismalaw11_isPrime.j0 k a0 true) else (schismalaw11_isPrime.j0 k a0 (decide (a0 > 97)))
theorem schismalaw11_isPrime.mono_l : ∀ k, (∀ y0 y1, LeO (schismalaw11_isPrime.j0 k y0 y1) (schismalaw11_isPrime.j0 (k + 1) y0 y1)) ∧ (∀ y0 y1, LeO (schismalaw11_isPrime.l0 k y0 y1) (schismalaw11_isPrime.l0 (k + 1) y0 y1))
 | 0 => ⟨fun _ _ r h => by simp [schismalaw11_isPrime.j0] at h, fun _ _ r h => by simp [schismalaw11_isPrime.l0] at h⟩
 | k + 1 => by
  obtain ⟨ih0, ih1⟩ := schismalaw11_isPrime.mono_l k
  refine ⟨?_, ?_⟩
  ·intro y0 y1
   unfold schismalaw11_isPrime.j0
   repeat' first
   | (with_reducible exact ih0 _ _)
   | (with_reducible exact ih1 _ _)
   | (with_reducible exact LeO.refl _)
   | (with_reducible exact LeO.none _)
   | (with_reducible refine LeO.ite ?_ ?_)
   | (with_reducible refine LeO.bind ?_ (fun _ => ?_))
  ·intro y0 y1
   unfold schismalaw11_isPrime.l0
   repeat' first
   | (with_reducible exact ih0 _ _)
   | (with_reducible exact ih1 _ _)
   | (with_reducible exact LeO.refl _)
   | (with_reducible exact LeO.none _)
   | (with_reducible refine LeO.ite ?_ ?_)
   | (with_reducible refine LeO.bind ?_ (fun _ => ?_))
theorem schismalaw11_isPrime.mono : ∀ a0 k, LeO (schismalaw11_isPrime.f k a0) (schismalaw11_isPrime.f (k + 1) a0) := by
 intro a0 k
 obtain ⟨ih0, ih1⟩ := schismalaw11_isPrime.mono_l k
 unfold schismalaw11_isPrime.f
 repeat' first
   | (with_reducible exact ih0 _ _)
   | (with_reducible exact ih1 _ _)
   | (with_reducible exact LeO.refl _)
   | (with_reducible exact LeO.none _)
   | (with_reducible refine LeO.ite ?_ ?_)
   | (with_reducible refine LeO.bind ?_ (fun _ => ?_))
set_option maxHeartbeats 8000000 in
set_option maxRecDepth 100000 in
theorem schismalaw11_isPrime.calls (k : Nat) (a0 : Int) (r : Bool) (w : World) (h : schismalaw11_isPrime.f k a0 = some r) :
  Calls Tryz.prog 60 #[.int .i64 a0] w fun e w' => e = .returned (.bool r) ∧ Drawn0 w w' := by
 have H : (if a0 < 2 then (schismalaw11_isPrime.j0 k a0 true) else (schismalaw11_isPrime.j0 k a0 (decide (a0 > 97)))) = some r := h
 clear h
 have HC2 := Aside0.mk H
 clear H
 go_enter Tryz.func60, Tryz.ntmps60
 go_upto_region 1 with (fail)
 go_cut [9] (fun v9 wc => ∃ (kq : Nat) (x9_1 : Bool), v9 = .bool x9_1 ∧ Aside0 (schismalaw11_isPrime.j0 kq a0 x9_1 = some r) ∧ Aside0 (kq ≤ k) ∧ Drawn0 w wc)
 case first =>
  have H := HC2.out
  clear HC2
  by_cases c3 : a0 < 2
  ·rw [if_pos c3] at H
   have c3b0 : decide (a0 < 2) = true := decide_eq_true c3
   clear c3
   (first | rw [c3b0] | (simp only [i64_w, i32_w]; rw [c3b0]) | skip)
   have H' := Aside0.mk H
   clear H
   go_wp2
   go_meet
   case rel => exact ⟨_, (true), (by first | rfl | (simp; done) | (simp [*]; done)), H', ⟨by first | omega | exact Nat.le_refl _⟩, by repeat (first | exact Drawn0.refl _ | apply Drawn0.step)⟩
  ·rw [if_neg c3] at H
   have c3b0 : decide (a0 < 2) = false := decide_eq_false c3
   clear c3
   (first | rw [c3b0] | (simp only [i64_w, i32_w]; rw [c3b0]) | skip)
   have H' := Aside0.mk H
   clear H
   go_wp2
   go_meet
   case rel => exact ⟨_, (decide (a0 > 97)), (by first | rfl | (simp; done) | (simp [*]; done)), H', ⟨by first | omega | exact Nat.le_refl _⟩, by repeat (first | exact Drawn0.refl _ | apply Drawn0.step)⟩
 case rest =>
  clear HC2
  obtain ⟨kq, x9_1, rfl, HA, HJ1, ⟨mc1, rfl⟩⟩ := hcut
  cases kq with
  | zero => exact absurd HA.out (by simp [schismalaw11_isPrime.j0])
  | succ kj1 =>
   have H := HA.out
   clear HA
   simp only [schismalaw11_isPrime.j0] at H
   by_cases c4 : x9_1 = true
   ·subst c4
    have H1 : (some false) = some r := by rw [if_pos rfl] at H; exact H
    clear H
    have H := H1
    clear H1
    obtain rfl := Option.some.inj H
    go_wp2
    go_ret
    exact ⟨by first | rfl | (simp; done) | (simp [*]; done), by repeat (first | exact Drawn0.refl _ | apply Drawn0.step)⟩
   ·replace c4 := Bool.eq_false_iff.mpr c4
    subst c4
    have H1 : (schismalaw11_isPrime.l0 kj1 a0 2) = some r := by rw [if_neg (show ¬ (false = true) by decide)] at H; exact H
    clear H
    have H := H1
    clear H1
    have H' := Aside0.mk H
    clear H
    go_wp2
    go_loopg [3] kj1 (fun kq v3 w' => ∃ (x3_2 : Int), v3 = .int .i64 x3_2 ∧ Aside0 (schismalaw11_isPrime.l0 kq a0 x3_2 = some r) ∧ Aside0 (kq ≤ kj1) ∧ Drawn0 w w')
    case atStart => exact ⟨(2), (by first | rfl | (simp; done) | (simp [*]; done)), H', ⟨Nat.le_refl _⟩, by repeat (first | exact Drawn0.refl _ | apply Drawn0.step)⟩
    case round =>
     clear H'
     obtain ⟨x3_2, rfl, HA, HK2, ⟨m2, rfl⟩⟩ := hrel
     cases gk with
     | zero => exact absurd HA.out (by simp [schismalaw11_isPrime.l0])
     | succ k2 =>
      have H := HA.out
      clear HA
      simp only [schismalaw11_isPrime.l0] at H
      by_cases c5 : x3_2 < a0
      ·rw [if_pos c5] at H
       have c5b0 : decide (x3_2 < a0) = true := decide_eq_true c5
       clear c5
       by_cases c6 : x3_2 = 0
       case pos => rw [if_pos c6] at H; exact absurd H (by simp)
       rw [if_neg c6] at H
       have c6b0 : (x3_2 == 0) = false := beq_eq_false_iff_ne.mpr c6
       have c6b1 : (x3_2 != 0) = true := bne_iff_ne.mpr c6
       by_cases c7 : (Int.tmod a0 x3_2) = 0
       ·rw [if_pos c7] at H
        have c7b0 : ((Int.tmod a0 x3_2) == 0) = true := beq_iff_eq.mpr c7
        have c7b1 : ((Int.tmod a0 x3_2) != 0) = false := bne_eq_false_iff_eq.mpr c7
        clear c7
        obtain rfl := Option.some.inj H
        go_wp2
        go_ret
        exact ⟨by first | rfl | (simp; done) | (simp [*]; done), by repeat (first | exact Drawn0.refl _ | apply Drawn0.step)⟩
       ·rw [if_neg c7] at H
        have c7b0 : ((Int.tmod a0 x3_2) == 0) = false := beq_eq_false_iff_ne.mpr c7
        have c7b1 : ((Int.tmod a0 x3_2) != 0) = true := bne_iff_ne.mpr c7
        have H' := Aside0.mk H
        clear H
        go_wp2
        go_roundg k2
        case measure => have := HJ1.out; have := HK2.out; omega
        case rel => exact ⟨(wrap64 (x3_2 + 1)), (by first | rfl | (simp; done) | (simp [*]; done)), H', ⟨by have := HJ1.out; have := HK2.out; omega⟩, by repeat (first | exact Drawn0.refl _ | apply Drawn0.step)⟩
      ·rw [if_neg c5] at H
       have c5b0 : decide (x3_2 < a0) = false := decide_eq_false c5
       clear c5
       obtain rfl := Option.some.inj H
       go_wp2
       go_ret
       exact ⟨by first | rfl | (simp; done) | (simp [*]; done), by repeat (first | exact Drawn0.refl _ | apply Drawn0.step)⟩
end Go.Proofs.YtccebdpjdpjgnaaGreatDoor.P
end
section
namespace Go.Proofs.YtccebdpjdpjgnaaGreatDoor.P
open Go.RowKit Go.Proofs.YtccebdpjdpjgnaaGreatDoorW.PrintWords Go.Proofs.YtccebdpjdpjgnaaGreatDoorW.PrintLast Go.Proofs.YtccebdpjdpjgnaaGreatDoorW.PrintMore
attribute [local go_sem] max2_int min2_int max_two min_two max_three min_three max_four min_four
def schismalaw11_all.l0 : Nat → Int → List Int → Int → Option (List Int)
 | 0, _, _, _ => none
 | k + 1, x0, x3, x4 => if x4 ≤ (mn x0 97) then ((schismalaw11_isPrime.f k x4).bind fun t1104 => (if t1104 = true then (if x3.length < 17592186044416 then (schismalaw11_all.l0 k x0 (x3 ++ [x4]) (wrap64 (x4 + 1))) else (none)) else (schismalaw11_all.l0 k x0 x3 (wrap64 (x4 + 1))))) else (some x3)
def schismalaw11_all.f (k : Nat) (a0 : Int) : Option (List Int) := schismalaw11_all.l0 k a0 ([] : List Int) 2
theorem schismalaw11_all.mono_l : ∀ k, (∀ y0 y1 y2, LeO (schismalaw11_all.l0 k y0 y1 y2) (schismalaw11_all.l0 (k + 1) y0 y1 y2))
 | 0 => fun _ _ _ r h => by simp [schismalaw11_all.l0] at h
 | k + 1 => by
  have ih0 := schismalaw11_all.mono_l k
  ·intro y0 y1 y2
   unfold schismalaw11_all.l0
   repeat' first
   | (with_reducible exact ih0 _ _ _)
   | (with_reducible exact schismalaw11_isPrime.mono _ _)
   | (with_reducible exact LeO.refl _)
   | (with_reducible exact LeO.none _)
   | (with_reducible refine LeO.ite ?_ ?_)
   | (with_reducible refine LeO.bind ?_ (fun _ => ?_))
theorem schismalaw11_all.mono : ∀ a0 k, LeO (schismalaw11_all.f k a0) (schismalaw11_all.f (k + 1) a0) := by
 intro a0 k
 have ih0 := schismalaw11_all.mono_l k
 unfold schismalaw11_all.f
 repeat' first
   | (with_reducible exact ih0 _ _ _)
   | (with_reducible exact schismalaw11_isPrime.mono _ _)
   | (with_reducible exact LeO.refl _)
   | (with_reducible exact LeO.none _)
   | (with_reducible refine LeO.ite ?_ ?_)
   | (with_reducible refine LeO.bind ?_ (fun _ => ?_))
set_option maxHeartbeats 8000000 in
set_option maxRecDepth 100000 in
theorem schismalaw11_all.calls (k : Nat) (a0 : Int) (r : List Int) (w : World) (h : schismalaw11_all.f k a0 = some r) :
  Calls Tryz.prog 64 #[.int .i64 a0] w fun e w' => ∃ v0_ : Value, e = .returned (v0_) ∧ Kd.R (Kd.int .i64) 3 w' w.heap.size (fun _ => True) v0_ r ∧ Below w.heap.size w w' := by
 have HB := Aside0.mk (Below.refl w.heap.size w)
 have H : (schismalaw11_all.l0 k a0 ([] : List Int) 2) = some r := h
 clear h
 have H' := Aside0.mk H
 clear H
 go_enter Tryz.func64, Tryz.ntmps64
 go_wp2
 go_loopg [3, 4] k (fun kq v3 v4 w' => ∃ (x3_1 : List Int) (x4_1 : Int), v4 = .int .i64 x4_1 ∧ Aside0 (schismalaw11_all.l0 kq a0 x3_1 x4_1 = some r) ∧ Aside0 (kq ≤ k) ∧ Aside0 (Kd.R (Kd.int .i64) 3 w' w.heap.size (fun _ => True) v3 x3_1) ∧ Aside0 (Below w.heap.size w w'))
 case atStart => exact ⟨(([] : List Int)), (2), (by first | rfl | (simp; done) | (simp [*]; done)), H', ⟨Nat.le_refl _⟩, ⟨by first | exact Kd.R_nil _ _ _ _ _ | exact Kd.N_nil _ _ _ _ _ | exact Kd.V_nil _ _ _ _ _ | exact Kd.Q_nil _ _ _ _ _ | exact Kd.S_nil _ _ _ _ _⟩, ⟨by apply_rules [HB.out, below_alloc, pw_below_drewN, below_drew1]⟩⟩
 case round =>
  clear H'
  obtain ⟨x3_1, x4_1, rfl, HA, HK1, HO_3, HB⟩ := hrel
  cases gk with
  | zero => exact absurd HA.out (by simp [schismalaw11_all.l0])
  | succ k1 =>
   have H := HA.out
   clear HA
   simp only [schismalaw11_all.l0] at H
   obtain ⟨ji2, hji2⟩ : ∃ j_ : Int, (mn a0 97) = j_ := ⟨_, rfl⟩
   replace H : (if x4_1 ≤ (ji2) then ((schismalaw11_isPrime.f k1 x4_1).bind fun t1104 => (if t1104 = true then (if x3_1.length < 17592186044416 then (schismalaw11_all.l0 k1 a0 (x3_1 ++ [x4_1]) (wrap64 (x4_1 + 1))) else (none)) else (schismalaw11_all.l0 k1 a0 x3_1 (wrap64 (x4_1 + 1))))) else (some x3_1)) = some r := by first | (rw [hji2] at H; exact H) | (simp only [hji2] at H ⊢; exact H)
   have hji2_ : (if 97 < a0 then 97 else a0) = ji2 := hji2
   by_cases c3 : x4_1 ≤ (ji2)
   ·rw [if_pos c3] at H
    have c3b0 : decide (x4_1 ≤ (ji2)) = true := decide_eq_true c3
    clear c3
    replace H := Option.bind_eq_some_iff.mp H
    obtain ⟨t1104, A40, H⟩ := H
    try dsimp only at H
    have A4 := Aside0.mk A40
    clear A40
    by_cases c5 : t1104 = true
    ·subst c5
     have H1 : (if x3_1.length < 17592186044416 then (schismalaw11_all.l0 k1 a0 (x3_1 ++ [x4_1]) (wrap64 (x4_1 + 1))) else (none)) = some r := by rw [if_pos rfl] at H; exact H
     clear H
     have H := H1
     clear H1
     by_cases c6 : x3_1.length < 17592186044416
     case neg => rw [if_neg c6] at H; exact absurd H (by simp)
     rw [if_pos c6] at H
     have LMc6 := Aside0.mk c6
     clear c6
     obtain ⟨y1105, hy1105⟩ : ∃ y_ : List Int, y_ = (x3_1 ++ [x4_1]) := ⟨_, rfl⟩
     replace H : (schismalaw11_all.l0 k1 a0 y1105 (wrap64 (x4_1 + 1))) = some r := by first | (rw [hy1105]; with_reducible exact H) | (have H2_ := (Option.bind_some _ _).symm.trans H; rw [hy1105]; with_reducible exact H2_) | (have H2_ := (Option.bind_some _ _).symm.trans H; with_reducible exact H2_) | with_reducible exact H | (rw [hy1105]; exact H) | exact H
     have Ny1105 := Aside0.mk hy1105
     clear hy1105
     have H' := Aside0.mk H
     clear H
     go_wp2_with (first | ((with_reducible refine gate_callee (f := 60) rfl ?_); refine goesK (some 12) Tryz.func60 [.int .i64 x4_1] rfl rfl ?_; (with_reducible refine (schismalaw11_isPrime.calls k1 x4_1 true _ A4.out).mono ?_); rintro e w' ⟨rfl, ⟨nd, rfl⟩⟩; refine ⟨_, rfl, ?_⟩) | ((with_reducible refine gate_builtin (b := .append) (xs := #[.tmp 13, .tmp 15]) rfl ?_); at_builtin; refine Kd.R_append (Kd.int .i64) (w0 := w) w.heap.size rfl (.tmp 13) (.tmp 15) 23 3 (.int .i64 0) 8 rfl Tryz.underlying23 info3 rfl (by decide) (by omega) u3 x3_1 x4_1 [.int .i64 x4_1] (fun _ => True) (fun _ => False) rfl rfl ?aP (fun _ hk => hk.elim) ?aF ?aO ?aB ?aS ?aL ?_; (case aP => exact rfl); (case aB => exact (by apply_rules [HB.out, below_alloc, pw_below_drewN, below_drew1])); (case aF => exact (fun _ _ => trivial)); (case aO => exact (by apply_rules [HO_3.out, Kd.R_alloc, Kd.R_drewN, Kd.R_drew])); (case aS => exact (below_size (by apply_rules [HB.out, below_alloc, pw_below_drewN, below_drew1]))); (case aL => have := LMc6.out; omega); intro v1106 w7 ho hb hg hat; rw [← Ny1105.out] at ho; replace HB := Aside0.mk (hb); have HO1107 := Aside0.mk (ho); clear HO_3; clear ho hb hg hat))
     go_roundg k1
     case measure => have := HK1.out; omega
     case rel => exact ⟨(y1105), (wrap64 (x4_1 + 1)), (by first | rfl | (simp; done) | (simp [*]; done)), H', ⟨by have := HK1.out; omega⟩, ⟨by apply_rules [HO1107.out, Kd.R_alloc, Kd.R_drewN, Kd.R_drew]⟩, ⟨by apply_rules [HB.out, below_alloc, pw_below_drewN, below_drew1]⟩⟩
    ·replace c5 := Bool.eq_false_iff.mpr c5
     subst c5
     have H1 : (schismalaw11_all.l0 k1 a0 x3_1 (wrap64 (x4_1 + 1))) = some r := by rw [if_neg (show ¬ (false = true) by decide)] at H; exact H
     clear H
     have H := H1
     clear H1
     have H' := Aside0.mk H
     clear H
     go_wp2_with (first | ((with_reducible refine gate_callee (f := 60) rfl ?_); refine goesK (some 12) Tryz.func60 [.int .i64 x4_1] rfl rfl ?_; (with_reducible refine (schismalaw11_isPrime.calls k1 x4_1 false _ A4.out).mono ?_); rintro e w' ⟨rfl, ⟨nd, rfl⟩⟩; refine ⟨_, rfl, ?_⟩))
     go_roundg k1
     case measure => have := HK1.out; omega
     case rel => exact ⟨(x3_1), (wrap64 (x4_1 + 1)), (by first | rfl | (simp; done) | (simp [*]; done)), H', ⟨by have := HK1.out; omega⟩, ⟨by apply_rules [HO_3.out, Kd.R_alloc, Kd.R_drewN, Kd.R_drew]⟩, ⟨by apply_rules [HB.out, below_alloc, pw_below_drewN, below_drew1]⟩⟩
   ·rw [if_neg c3] at H
    have c3b0 : decide (x4_1 ≤ (ji2)) = false := decide_eq_false c3
    clear c3
    obtain rfl := Option.some.inj H
    go_wp2
    go_ret
    exact ⟨_, by first | rfl | (simp [errW_none, errW_some] <;> rfl) | (simp only [← hji2]; first | rfl | (simp [errW_none, errW_some] <;> rfl)) | (simp [*, errW_none, errW_some] <;> rfl), by (with_reducible repeat (first | apply Kd.R_alloc | apply Kd.R_drewN | apply Kd.R_drew)); exact HO_3.out, by apply_rules [HB.out, below_alloc, pw_below_drewN, below_drew1]⟩
def schismalaw11_Make.l0 : Nat → Int → List Int → List Int → Int → Int → Option (List Int)
 | 0, _, _, _, _, _ => none
 | k + 1, x0, x3, x6, x7, x8 => if x8 < x7 then (if 0 ≤ x8 then (if x8 < (x6.length : Int) then (if (Go.bits .and .u16 (shr .u16 x0 x8) 1) = 1 then (if (x3.length : Int) < 6 then (if x3.length < 17592186044416 then (schismalaw11_Make.l0 k x0 (x3 ++ [rd x6 x8]) x6 x7 (wrap64 (x8 + 1))) else (none)) else (schismalaw11_Make.l0 k x0 x3 x6 x7 (wrap64 (x8 + 1)))) else (schismalaw11_Make.l0 k x0 x3 x6 x7 (wrap64 (x8 + 1)))) else (none)) else (none)) else (if (x3.length : Int) = 0 then (some (([2] : List Int))) else (some x3))
def schismalaw11_Make.f (k : Nat) (a0 : Int) : Option (List Int) := (schismalaw11_all.f k 53).bind fun t1135 => (schismalaw11_Make.l0 k a0 ([] : List Int) t1135 (t1135.length : Int) 0)
set_option maxHeartbeats 8000000 in
set_option maxRecDepth 100000 in
theorem schismalaw11_Make.calls (k : Nat) (a0 : Int) (r : List Int) (w : World) (h : schismalaw11_Make.f k a0 = some r) :
  Calls Tryz.prog 66 #[.int .u16 a0] w fun e w' => ∃ v0_ : Value, e = .returned (v0_) ∧ Kd.R (Kd.int .i64) 3 w' w.heap.size (fun _ => True) v0_ r ∧ Below w.heap.size w w' := by
 have HB := Aside0.mk (Below.refl w.heap.size w)
 have H : ((schismalaw11_all.f k 53).bind fun t1135 => (schismalaw11_Make.l0 k a0 ([] : List Int) t1135 (t1135.length : Int) 0)) = some r := h
 clear h
 replace H := Option.bind_eq_some_iff.mp H
 obtain ⟨t1135, A20, H⟩ := H
 try dsimp only at H
 have A2 := Aside0.mk A20
 clear A20
 have H' := Aside0.mk H
 clear H
 go_enter Tryz.func66, Tryz.ntmps66
 go_wp2_with (first | ((with_reducible refine gate_callee (f := 64) rfl ?_); refine goesK (some 6) Tryz.func64 [.int .i64 53] rfl rfl ?_; (with_reducible refine (schismalaw11_all.calls k 53 t1135 _ A2.out).mono ?_); rintro e w3 ⟨v1136, rfl, ho0, hb⟩; refine ⟨_, rfl, ?_⟩; have HO1137 := Aside0.mk (Kd.R_lower ho0 (below_size (by apply_rules [HB.out, below_alloc, pw_below_drewN, below_drew1]))); replace HB := Aside0.mk (below_step (by apply_rules [HB.out, below_alloc, pw_below_drewN, below_drew1]) hb); (try clear hb); (try clear ho0); obtain ⟨Ao4, co4, eo4⟩ := Kd.R_slice HO1137.out; subst eo4))
 go_loopg [3, 8] k (fun kq v3 v8 w' => ∃ (x3_1 : List Int) (x8_1 : Int), v8 = .int .i64 x8_1 ∧ Aside0 (schismalaw11_Make.l0 kq a0 x3_1 t1135 (t1135.length : Int) x8_1 = some r) ∧ Aside0 (kq ≤ k) ∧ Aside0 (Kd.R (Kd.int .i64) 3 w' w.heap.size (fun k_ => some k_ ≠ ((.slice Ao4 t1135.length co4) : Value).ownBlock) v3 x3_1) ∧ Aside0 (Kd.R (Kd.int .i64) 3 w' w.heap.size (fun k_ => some k_ ≠ (v3 : Value).ownBlock) (.slice Ao4 t1135.length co4) t1135) ∧ Aside0 (Below w.heap.size w w'))
 case atStart => exact ⟨(([] : List Int)), (0), (by first | rfl | (simp; done) | (simp [*]; done)), H', ⟨Nat.le_refl _⟩, ⟨by first | exact Kd.R_nil _ _ _ _ _ | exact Kd.N_nil _ _ _ _ _ | exact Kd.V_nil _ _ _ _ _ | exact Kd.Q_nil _ _ _ _ _ | exact Kd.S_nil _ _ _ _ _⟩, ⟨by (with_reducible repeat (first | apply Kd.R_alloc | apply Kd.R_drewN | apply Kd.R_drew)); exact Kd.R_mono HO1137.out (fun _ hk => (by simp [Value.ownBlock]))⟩, ⟨by apply_rules [HB.out, below_alloc, pw_below_drewN, below_drew1]⟩⟩
 case round =>
  clear H'
  obtain ⟨x3_1, x8_1, rfl, HA, HK1, HO_3, HO_6, HB⟩ := hrel
  cases gk with
  | zero => exact absurd HA.out (by simp [schismalaw11_Make.l0])
  | succ k1 =>
   have H := HA.out
   clear HA
   simp only [schismalaw11_Make.l0] at H
   by_cases c5 : x8_1 < (t1135.length : Int)
   ·rw [if_pos c5] at H
    have c5b0 : decide (x8_1 < (t1135.length : Int)) = true := decide_eq_true c5
    clear c5
    by_cases c6 : 0 ≤ x8_1
    case neg => rw [if_neg c6] at H; exact absurd H (by simp)
    rw [if_pos c6] at H
    have c6b0 : decide (0 ≤ x8_1) = true := decide_eq_true c6
    clear c6
    by_cases c7 : x8_1 < (t1135.length : Int)
    case neg => rw [if_neg c7] at H; exact absurd H (by simp)
    rw [if_pos c7] at H
    have c7b0 : decide (x8_1 < (t1135.length : Int)) = true := decide_eq_true c7
    clear c7
    have c8b0 := eq_true (of_decide_eq_true (by assumption) : 0 ≤ x8_1)
    obtain ⟨ji9, hji9⟩ : ∃ j_ : Int, (shr .u16 a0 x8_1) = j_ := ⟨_, rfl⟩
    replace H : (if (Go.bits .and .u16 (ji9) 1) = 1 then (if (x3_1.length : Int) < 6 then (if x3_1.length < 17592186044416 then (schismalaw11_Make.l0 k1 a0 (x3_1 ++ [rd t1135 x8_1]) t1135 (t1135.length : Int) (wrap64 (x8_1 + 1))) else (none)) else (schismalaw11_Make.l0 k1 a0 x3_1 t1135 (t1135.length : Int) (wrap64 (x8_1 + 1)))) else (schismalaw11_Make.l0 k1 a0 x3_1 t1135 (t1135.length : Int) (wrap64 (x8_1 + 1)))) = some r := by first | (rw [hji9] at H; exact H) | (simp only [hji9] at H ⊢; exact H)
    have hji9_ : (a0 / 2 ^ min x8_1.toNat 16) = ji9 := hji9
    have hji9z : x8_1 ≤ 16 → (a0 / 2 ^ x8_1.toNat) = ji9 := shr_small hji9
    by_cases c10 : (Go.bits .and .u16 (ji9) 1) = 1
    ·rw [if_pos c10] at H
     have c10b0 : ((Go.bits .and .u16 (ji9) 1) == 1) = true := beq_iff_eq.mpr c10
     have c10b1 : ((Go.bits .and .u16 (ji9) 1) != 1) = false := bne_eq_false_iff_eq.mpr c10
     clear c10
     by_cases c11 : (x3_1.length : Int) < 6
     ·rw [if_pos c11] at H
      have c11b0 : decide ((x3_1.length : Int) < 6) = true := decide_eq_true c11
      have c11b1 : decide (x3_1.length < 6) = true := decide_eq_true (by omega)
      clear c11
      by_cases c12 : x3_1.length < 17592186044416
      case neg => rw [if_neg c12] at H; exact absurd H (by simp)
      rw [if_pos c12] at H
      have LMc12 := Aside0.mk c12
      clear c12
      obtain ⟨y1139, hy1139⟩ : ∃ y_ : List Int, y_ = (x3_1 ++ [rd t1135 x8_1]) := ⟨_, rfl⟩
      replace H : (schismalaw11_Make.l0 k1 a0 y1139 t1135 (t1135.length : Int) (wrap64 (x8_1 + 1))) = some r := by first | (rw [hy1139]; with_reducible exact H) | (have H2_ := (Option.bind_some _ _).symm.trans H; rw [hy1139]; with_reducible exact H2_) | (have H2_ := (Option.bind_some _ _).symm.trans H; with_reducible exact H2_) | with_reducible exact H | (rw [hy1139]; exact H) | exact H
      have Ny1139 := Aside0.mk hy1139
      clear hy1139
      have H' := Aside0.mk H
      clear H
      have p1138 : 0 ≤ (x8_1 : Int) := of_decide_eq_true (by assumption)
      have q1138 : x8_1 < (t1135.length : Int) := of_decide_eq_true (by assumption)
      obtain ⟨ad1138, e1138, hx1138_0⟩ := Kd.at_int (Kd.R_reads' HO_6.out).2.2 x8_1 p1138 q1138
      cases e1138
      replace p1138 := eq_true p1138
      replace q1138 := eq_true q1138
      obtain ⟨Ao13, co13, eo13⟩ := Kd.R_slice HO_3.out
      subst eo13
      go_wp2_with (first | ((with_reducible refine gate_builtin (b := .append) (xs := #[.tmp 23, .tmp 25]) rfl ?_); (try (refine gate_guard (by rfl) ?_; dsimp only)); at_builtin; refine Kd.R_append (Kd.int .i64) (w0 := w) w.heap.size rfl (.tmp 23) (.tmp 25) 23 3 (.int .i64 0) 8 rfl Tryz.underlying23 info3 rfl (by decide) (by omega) (.slice Ao13 x3_1.length co13) x3_1 (rd t1135 x8_1) [.int .i64 (rd t1135 x8_1)] (fun k_ => some k_ ≠ (.slice (some ad1138) t1135.length co4 : Value).ownBlock) (fun _ => False) rfl rfl ?aP (fun _ hk => hk.elim) ?aF ?aO ?aB ?aS ?aL ?_; (case aP => exact rfl); (case aB => exact (by apply_rules [HB.out, below_alloc, pw_below_drewN, below_drew1])); (case aF => exact (fun k_ hk => Kd.fresh' (Kd.R_lt (by apply_rules [HO_6.out, Kd.R_alloc, Kd.R_drewN, Kd.R_drew])) k_ hk)); (case aO => exact (by apply_rules [HO_3.out, Kd.R_alloc, Kd.R_drewN, Kd.R_drew])); (case aS => exact (below_size (by apply_rules [HB.out, below_alloc, pw_below_drewN, below_drew1]))); (case aL => have := LMc12.out; omega); intro v1140 w14 ho hb hg hat; rw [← Ny1139.out] at ho; replace HO_6 := Aside0.mk (Kd.R_after (ok := (fun _ => True)) (by (with_reducible repeat (first | apply Kd.R_alloc | apply Kd.R_drewN | apply Kd.R_drew)); exact Kd.R_mono HO_6.out (fun _ hk => ⟨trivial, hk⟩)) hg hat); replace HB := Aside0.mk (hb); have HO1141 := Aside0.mk (ho); clear HO_3; clear ho hb hg hat))
      go_roundg k1
      case measure => have := HK1.out; omega
      case rel => exact ⟨(y1139), (wrap64 (x8_1 + 1)), (by first | rfl | (simp; done) | (simp [*]; done)), H', ⟨by have := HK1.out; omega⟩, ⟨by apply_rules [HO1141.out, Kd.R_alloc, Kd.R_drewN, Kd.R_drew]⟩, ⟨by (with_reducible repeat (first | apply Kd.R_alloc | apply Kd.R_drewN | apply Kd.R_drew)); exact Kd.R_mono HO_6.out (fun _ hk => hk.2)⟩, ⟨by apply_rules [HB.out, below_alloc, pw_below_drewN, below_drew1]⟩⟩
     ·rw [if_neg c11] at H
      have c11b0 : decide ((x3_1.length : Int) < 6) = false := decide_eq_false c11
      have c11b1 : decide (x3_1.length < 6) = false := decide_eq_false (by omega)
      clear c11
      have H' := Aside0.mk H
      clear H
      have p1138 : 0 ≤ (x8_1 : Int) := of_decide_eq_true (by assumption)
      have q1138 : x8_1 < (t1135.length : Int) := of_decide_eq_true (by assumption)
      obtain ⟨ad1138, e1138, hx1138_0⟩ := Kd.at_int (Kd.R_reads' HO_6.out).2.2 x8_1 p1138 q1138
      cases e1138
      replace p1138 := eq_true p1138
      replace q1138 := eq_true q1138
      obtain ⟨Ao15, co15, eo15⟩ := Kd.R_slice HO_3.out
      subst eo15
      go_wp2
      go_roundg k1
      case measure => have := HK1.out; omega
      case rel => exact ⟨(x3_1), (wrap64 (x8_1 + 1)), (by first | rfl | (simp; done) | (simp [*]; done)), H', ⟨by have := HK1.out; omega⟩, ⟨by apply_rules [HO_3.out, Kd.R_alloc, Kd.R_drewN, Kd.R_drew]⟩, ⟨by apply_rules [HO_6.out, Kd.R_alloc, Kd.R_drewN, Kd.R_drew]⟩, ⟨by apply_rules [HB.out, below_alloc, pw_below_drewN, below_drew1]⟩⟩
    ·rw [if_neg c10] at H
     have c10b0 : ((Go.bits .and .u16 (ji9) 1) == 1) = false := beq_eq_false_iff_ne.mpr c10
     have c10b1 : ((Go.bits .and .u16 (ji9) 1) != 1) = true := bne_iff_ne.mpr c10
     have H' := Aside0.mk H
     clear H
     have p1138 : 0 ≤ (x8_1 : Int) := of_decide_eq_true (by assumption)
     have q1138 : x8_1 < (t1135.length : Int) := of_decide_eq_true (by assumption)
     obtain ⟨ad1138, e1138, hx1138_0⟩ := Kd.at_int (Kd.R_reads' HO_6.out).2.2 x8_1 p1138 q1138
     cases e1138
     replace p1138 := eq_true p1138
     replace q1138 := eq_true q1138
     go_wp2
     go_roundg k1
     case measure => have := HK1.out; omega
     case rel => exact ⟨(x3_1), (wrap64 (x8_1 + 1)), (by first | rfl | (simp; done) | (simp [*]; done)), H', ⟨by have := HK1.out; omega⟩, ⟨by apply_rules [HO_3.out, Kd.R_alloc, Kd.R_drewN, Kd.R_drew]⟩, ⟨by apply_rules [HO_6.out, Kd.R_alloc, Kd.R_drewN, Kd.R_drew]⟩, ⟨by apply_rules [HB.out, below_alloc, pw_below_drewN, below_drew1]⟩⟩
   ·rw [if_neg c5] at H
    have c5b0 : decide (x8_1 < (t1135.length : Int)) = false := decide_eq_false c5
    clear c5
    by_cases c16 : (x3_1.length : Int) = 0
    ·rw [if_pos c16] at H
     have c16b0 : ((x3_1.length : Int) == 0) = true := beq_iff_eq.mpr c16
     have c16b1 : ((x3_1.length : Int) != 0) = false := bne_eq_false_iff_eq.mpr c16
     clear c16
     obtain ⟨y1142, hy1142⟩ : ∃ y_ : List Int, y_ = (([2] : List Int)) := ⟨_, rfl⟩
     replace H : (some y1142) = some r := by first | (rw [hy1142]; with_reducible exact H) | (have H2_ := (Option.bind_some _ _).symm.trans H; rw [hy1142]; with_reducible exact H2_) | (have H2_ := (Option.bind_some _ _).symm.trans H; with_reducible exact H2_) | with_reducible exact H | (rw [hy1142]; exact H) | exact H
     have Ny1142 := Aside0.mk hy1142
     clear hy1142
     obtain rfl := Option.some.inj H
     obtain ⟨Ao17, co17, eo17⟩ := Kd.R_slice HO_3.out
     subst eo17
     go_wp2_with (first | ((with_reducible refine gate_dst (N := 31) rfl ?_); (try (refine gate_guard (by rfl) ?_; dsimp only)); refine Kd.R_lit (Kd.int .i64) _ 3 ?hg (N := 31) ?hd (xs := ([2] : List Int)) (inner := [.int .i64 2]) (ok := fun _ => True) (okp := fun _ => True) ?hr ?hp (fun _ hk => hk) trivial (Below.refl _ _) (Nat.le_refl _) (by simp) ?_; (case hd => rfl); (case hg => rfl); (case hr => go_simp; try rfl); (case hp => exact (Reps.one (show Kd.M (Kd.int .i64) _ _ _ 2 [.int .i64 2] from rfl) (Reps.none _ _))); intro v1143 w18 ho19 hb hg_ hnew_; clear hg_ hnew_; (first | rw [← Ny1142.out] at ho19 | (simp only [Int.reduceToNat] at ho19; rw [← Ny1142.out] at ho19)); have n0_ := Aside0.mk (Kd.R_elder' (by apply_rules [HO_3.out, Kd.R_alloc, Kd.R_drewN, Kd.R_drew]) (Kd.R_base ho19) hb); have n1_ := Aside0.mk (Kd.R_elder' (by apply_rules [HO_6.out, Kd.R_alloc, Kd.R_drewN, Kd.R_drew]) (Kd.R_base ho19) hb); have n2_ := Aside0.mk (Kd.R_lower (Kd.R_new' (Kd.R_new' ho19 (Kd.R_lt (by apply_rules [HO_3.out, Kd.R_alloc, Kd.R_drewN, Kd.R_drew]))) (Kd.R_lt (by apply_rules [HO_6.out, Kd.R_alloc, Kd.R_drewN, Kd.R_drew]))) (below_size (by apply_rules [HB.out, below_alloc, pw_below_drewN, below_drew1]))); have n3_ := Aside0.mk (below_step (by apply_rules [HB.out, below_alloc, pw_below_drewN, below_drew1]) hb); clear HO_3; clear HO_6; clear HB; have HO_3 := n0_; have HO_6 := n1_; have HO1144 := n2_; have HB := n3_; clear n0_ n1_ n2_ n3_; clear hb ho19))
     go_ret
     exact ⟨_, by first | rfl | simp [*], by (with_reducible repeat (first | apply Kd.R_alloc | apply Kd.R_drewN | apply Kd.R_drew)); exact Kd.R_mono HO1144.out (fun _ hk => trivial), by apply_rules [HB.out, below_alloc, pw_below_drewN, below_drew1]⟩
    ·rw [if_neg c16] at H
     have c16b0 : ((x3_1.length : Int) == 0) = false := beq_eq_false_iff_ne.mpr c16
     have c16b1 : ((x3_1.length : Int) != 0) = true := bne_iff_ne.mpr c16
     have c16b2 : ¬ (x3_1 = []) := fun h_ => c16 (by rw [h_]; rfl)
     obtain rfl := Option.some.inj H
     obtain ⟨Ao20, co20, eo20⟩ := Kd.R_slice HO_3.out
     subst eo20
     go_wp2
     go_ret
     exact ⟨_, by first | rfl | simp [*], by (with_reducible repeat (first | apply Kd.R_alloc | apply Kd.R_drewN | apply Kd.R_drew)); exact Kd.R_mono HO_3.out (fun _ hk => trivial), by apply_rules [HB.out, below_alloc, pw_below_drewN, below_drew1]⟩
end Go.Proofs.YtccebdpjdpjgnaaGreatDoor.P
end
