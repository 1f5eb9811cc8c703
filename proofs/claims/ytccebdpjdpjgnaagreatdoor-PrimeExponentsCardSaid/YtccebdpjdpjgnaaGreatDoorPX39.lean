/-
parts of the walks and of the plain laws: Pschismalaw11isPrime Pschismalaw11all Pschismalaw11PrimeExponents
-/
import Derived.Test.YtccebdpjdpjgnaaGreatDoorPX32
import Derived.Test.YtccebdpjdpjgnaaGreatDoorPX37
set_option linter.unusedVariables false
set_option linter.unusedSimpArgs false
section
namespace Go.Proofs.YtccebdpjdpjgnaaGreatDoor.P
open Go.RowKit Go.Proofs.YtccebdpjdpjgnaaGreatDoorW.PrintWords Go.Proofs.YtccebdpjdpjgnaaGreatDoorW.PrintLast Go.Proofs.YtccebdpjdpjgnaaGreatDoorW.PrintMore
attribute [local go_sem] max2_int min2_int max_two min_two max_three min_three max_four min_four
mutual
def schismalaw11_isPrime.j0 : Nat → Int → Bool → Option (Bool)
 | 0, _, _ => none
 | k + 1, x0, x9 => if x9 = true then (some false) else (schismalaw11_isPrime.l0 k x0 2)
def schismalaw11_isPrime.l0 : Nat → Int → Int → Option (Bool)
 | 0, _, _ => none
 | k + 1, x0, x3 => if x3 < x0 then (if x3 = 0 then (none) else (if (Int.tmod x0 x3) = 0 then (some false) else (schismalaw11_isPrime.l0 k x0 (wrap64 (x3 + 1))))) else (some true)
end
def schismalaw11_isPrime.f (k : Nat) (a0 : Int) : Option (Bool) := if a0 < 2 then (schismalaw11_isPrime.j0 k a0 true) else (schismalaw11_isPrime.j0 k a0 (decide (a0 > 97)))
theorem schismalaw11_isPrime.mono_l : ∀ k, (∀ y0 y1, LeO (schismalaw11_isPrime.j0 k y0 y1) (schismalaw11_isPrime.j0 (k + 1) y0 y1)) ∧ (∀ y0 y1, LeO (schismalaw11_isPrime.l0 k y0 y1) (schismalaw11_isPrime.l0 (k + 1) y0 y1))
 | 0 => ⟨fun _ _ r h => by simp [schismalaw11_isPrime.j0] at h, fun _ _ r h => by simp [schismalaw11_isPrime.l0] at h⟩
 | k + 1 => by
  obtain ⟨ih0, ih1⟩ := schismalaw11_isPrime.mono_l k
  refine ⟨?_, ?_⟩
  ·intro y0 y1
   unfold schismalaw11_isPrime.j0
   repeat' first
   | (with_reducible exact ih0 _ _)
   | (with_reducible exact ih1 _ _)
   | (with_reducible exact LeO.refl _)
   | (with_reducible exact LeO.none _)
   | (with_reducible refine LeO.ite ?_ ?_)
   | (with_reducible refine LeO.bind ?_ (fun _ => ?_))
  ·intro y0 y1
   unfold schismalaw11_isPrime.l0
   repeat' first
   | (with_reducible exact ih0 _ _)
   | (with_reducible exact ih1 _ _)
   | (with_reducible exact LeO.refl _)
   | (with_reducible exact LeO.none _)
   | (with_reducible refine LeO.ite ?_ ?_)
   | (with_reducible refine LeO.bind ?_ (fun _ => ?_))
theorem schismalaw11_isPrime.mono : ∀ a0 k, LeO (schismalaw11_isPrime.f k a0) (schismalaw11_isPrime.f (k + 1) a0) := by
 intro a0 k
 obtain ⟨ih0, ih1⟩ := schismalaw11_isPrime.mono_l k
 unfold schismalaw11_isPrime.f
 repeat' first
   | (with_reducible exact ih0 _ _)
   | (with_reducible exact ih1 _ _)
   | (with_reducible exact LeO.refl _)
   | (with_reducible exact LeO.none _)
   | (with_reducible refine LeO.ite ?_ ?_)
   | (with_reducible refine LeO.bind ?_ (fun _ => ?_))
set_option maxHeartbeats 8000000 in
set_option maxRecDepth 100000 in
theorem schismalaw11_isPrime.calls (k : Nat) (a0 : Int) (r : Bool) (w : World) (h : schismalaw11_isPrime.f k a0 = some r) :
  Calls Tryz.prog 60 #[.int .i64 a0] w fun e w' => e = .returned (.bool r) ∧ Drawn0 w w' := by
 have H : (if a0 < 2 then (schismalaw11_isPrime.j0 k a0 true) else (schismalaw11_isPrime.j0 k a0 (decide (a0 > 97)))) = some r := h
 clear h
 have HC2 := Aside0.mk H
 clear H
 go_enter Tryz.func60, Tryz.ntmps60
 go_upto_region 1 with (fail)
 go_cut [9] (fun v9 wc => ∃ (kq : Nat) (x9_1 : Bool), v9 = .bool x9_1 ∧ Aside0 (schismalaw11_isPrime.j0 kq a0 x9_1 = some r) ∧ Aside0 (kq ≤ k) ∧ Drawn0 w wc)
 case first =>
  have H := HC2.out
  clear HC2
  by_cases c3 : a0 < 2
  ·rw [if_pos c3] at H
   have c3b0 : decide (a0 < 2) = true := decide_eq_true c3
   clear c3
   (first | rw [c3b0] | (simp only [i64_w, i32_w]; rw [c3b0]) | skip)
   have H' := Aside0.mk H
   clear H
   go_wp2
   go_meet
   case rel => exact ⟨_, (true), (by first | rfl | (simp; done) | (simp [*]; done)), H', ⟨by first | omega | exact Nat.le_refl _⟩, by repeat (first | exact Drawn0.refl _ | apply Drawn0.step)⟩
  ·rw [if_neg c3] at H
   have c3b0 : decide (a0 < 2) = false := decide_eq_false c3
   clear c3
   (first | rw [c3b0] | (simp only [i64_w, i32_w]; rw [c3b0]) | skip)
   have H' := Aside0.mk H
   clear H
   go_wp2
   go_meet
   case rel => exact ⟨_, (decide (a0 > 97)), (by first | rfl | (simp; done) | (simp [*]; done)), H', ⟨by first | omega | exact Nat.le_refl _⟩, by repeat (first | exact Drawn0.refl _ | apply Drawn0.step)⟩
 case rest =>
  clear HC2
  obtain ⟨kq, x9_1, rfl, HA, HJ1, ⟨mc1, rfl⟩⟩ := hcut
  cases kq with
  | zero => exact absurd HA.out (by simp [schismalaw11_isPrime.j0])
  | succ kj1 =>
   have H := HA.out
   clear HA
   simp only [schismalaw11_isPrime.j0] at H
   by_cases c4 : x9_1 = true
   ·subst c4
    have H1 : (some false) = some r := by rw [if_pos rfl] at H; exact H
    clear H
    have H := H1
    clear H1
    obtain rfl := Option.some.inj H
    go_wp2
    go_ret
    exact ⟨by first | rfl | (simp; done) | (simp [*]; done), by repeat (first | exact Drawn0.refl _ | apply Drawn0.step)⟩
   ·replace c4 := Bool.eq_false_iff.mpr c4
    subst c4
    have H1 : (schismalaw11_isPrime.l0 kj1 a0 2) = some r := by rw [if_neg (show ¬ (false = true) by decide)] at H; exact H
    clear H
    have H := H1
    clear H1
    have H' := Aside0.mk H
    clear H
    go_wp2
    go_loopg [3] kj1 (fun kq v3 w' => ∃ (x3_2 : Int), v3 = .int .i64 x3_2 ∧ Aside0 (schismalaw11_isPrime.l0 kq a0 x3_2 = some r) ∧ Aside0 (kq ≤ kj1) ∧ Drawn0 w w')
    case atStart => exact ⟨(2), (by first | rfl | (simp; done) | (simp [*]; done)), H', ⟨Nat.le_refl _⟩, by repeat (first | exact Drawn0.refl _ | apply Drawn0.step)⟩
    case round =>
     clear H'
     obtain ⟨x3_2, rfl, HA, HK2, ⟨m2, rfl⟩⟩ := hrel
     cases gk with
     | zero => exact absurd HA.out (by simp [schismalaw11_isPrime.l0])
     | succ k2 =>
      have H := HA.out
      clear HA
      simp only [schismalaw11_isPrime.l0] at H
      by_cases c5 : x3_2 < a0
      ·rw [if_pos c5] at H
       have c5b0 : decide (x3_2 < a0) = true := decide_eq_true c5
       clear c5
       by_cases c6 : x3_2 = 0
       case pos => rw [if_pos c6] at H; exact absurd H (by simp)
       rw [if_neg c6] at H
       have c6b0 : (x3_2 == 0) = false := beq_eq_false_iff_ne.mpr c6
       have c6b1 : (x3_2 != 0) = true := bne_iff_ne.mpr c6
       by_cases c7 : (Int.tmod a0 x3_2) = 0
       ·rw [if_pos c7] at H
        have c7b0 : ((Int.tmod a0 x3_2) == 0) = true := beq_iff_eq.mpr c7
        have c7b1 : ((Int.tmod a0 x3_2) != 0) = false := bne_eq_false_iff_eq.mpr c7
        clear c7
        obtain rfl := Option.some.inj H
        go_wp2
        go_ret
        exact ⟨by first | rfl | (simp; done) | (simp [*]; done), by repeat (first | exact Drawn0.refl _ | apply Drawn0.step)⟩
       ·rw [if_neg c7] at H
        have c7b0 : ((Int.tmod a0 x3_2) == 0) = false := beq_eq_false_iff_ne.mpr c7
        have c7b1 : ((Int.tmod a0 x3_2) != 0) = true := bne_iff_ne.mpr c7
        have H' := Aside0.mk H
        clear H
        go_wp2
        go_roundg k2
        case measure => have := HJ1.out; have := HK2.out; omega
        case rel => exact ⟨(wrap64 (x3_2 + 1)), (by first | rfl | (simp; done) | (simp [*]; done)), H', ⟨by have := HJ1.out; have := HK2.out; omega⟩, by repeat (first | exact Drawn0.refl _ | apply Drawn0.step)⟩
      ·rw [if_neg c5] at H
       have c5b0 : decide (x3_2 < a0) = false := decide_eq_false c5
       clear c5
       obtain rfl := Option.some.inj H
       go_wp2
       go_ret
       exact ⟨by first | rfl | (simp; done) | (simp [*]; done), by repeat (first | exact Drawn0.refl _ | apply Drawn0.step)⟩
end Go.Proofs.YtccebdpjdpjgnaaGreatDoor.P
end
section
namespace Go.Proofs.YtccebdpjdpjgnaaGreatDoor.P
open Go.RowKit Go.Proofs.YtccebdpjdpjgnaaGreatDoorW.PrintWords Go.Proofs.YtccebdpjdpjgnaaGreatDoorW.PrintLast Go.Proofs.YtccebdpjdpjgnaaGreatDoorW.PrintMore
attribute [local go_sem] max2_int min2_int max_two min_two max_three min_three max_four min_four
def schismalaw11_all.l0 : Nat → Int → List Int → Int → Option (List Int)
 | 0, _, _, _ => none
 | k + 1, x0, x3, x4 => if x4 ≤ (mn x0 97) then ((schismalaw11_isPrime.f k x4).bind fun t1104 => (if t1104 = true then (if x3.length < 17592186044416 then (schismalaw11_all.l0 k x0 (x3 ++ [x4]) (wrap64 (x4 + 1))) else (none)) else (schismalaw11_all.l0 k x0 x3 (wrap64 (x4 + 1))))) else (some x3)
def schismalaw11_all.f (k : Nat) (a0 : Int) : Option (List Int) := schismalaw11_all.l0 k a0 ([] : List Int) 2
theorem schismalaw11_all.mono_l : ∀ k, (∀ y0 y1 y2, LeO (schismalaw11_all.l0 k y0 y1 y2) (schismalaw11_all.l0 (k + 1) y0 y1 y2))
 | 0 => fun _ _ _ r h => by simp [schismalaw11_all.l0] at h
 | k + 1 => by
  have ih0 := schismalaw11_all.mono_l k
  ·intro y0 y1 y2
   unfold schismalaw11_all.l0
   repeat' first
   | (with_reducible exact ih0 _ _ _)
   | (with_reducible exact schismalaw11_isPrime.mono _ _)
   | (with_reducible exact LeO.refl _)
   | (with_reducible exact LeO.none _)
   | (with_reducible refine LeO.ite ?_ ?_)
   | (with_reducible refine LeO.bind ?_ (fun _ => ?_))
theorem schismalaw11_all.mono : ∀ a0 k, LeO (schismalaw11_all.f k a0) (schismalaw11_all.f (k + 1) a0) := by
 intro a0 k
 have ih0 := schismalaw11_all.mono_l k
 unfold schismalaw11_all.f
 repeat' first
   | (with_reducible exact ih0 _ _ _)
   | (with_reducible exact schismalaw11_isPrime.mono _ _)
   | (with_reducible exact LeO.refl _)
   | (with_reducible exact LeO.none _)
   | (with_reducible refine LeO.ite ?_ ?_)
   | (with_reducible refine LeO.bind ?_ (fun _ => ?_))
set_option maxHeartbeats 8000000 in
set_option maxRecDepth 100000 in
theorem schismalaw11_all.calls (k : Nat) (a0 : Int) (r : List Int) (w : World) (h : schismalaw11_all.f k a0 = some r) :
  Calls Tryz.prog 64 #[.int .i64 a0] w fun e w' => ∃ v0_ : Value, e = .returned (v0_) ∧ Kd.R (Kd.int .i64) 3 w' w.heap.size (fun _ => True) v0_ r ∧ Below w.heap.size w w' := by
 have HB := Aside0.mk (Below.refl w.heap.size w)
 have H : (schismalaw11_all.l0 k a0 ([] : List Int) 2) = some r := h
 clear h
 have H' := Aside0.mk H
 clear H
 go_enter Tryz.func64, Tryz.ntmps64
 go_wp2
 go_loopg [3, 4] k (fun kq v3 v4 w' => ∃ (x3_1 : List Int) (x4_1 : Int), v4 = .int .i64 x4_1 ∧ Aside0 (schismalaw11_all.l0 kq a0 x3_1 x4_1 = some r) ∧ Aside0 (kq ≤ k) ∧ Aside0 (Kd.R (Kd.int .i64) 3 w' w.heap.size (fun _ => True) v3 x3_1) ∧ Aside0 (Below w.heap.size w w'))
 case atStart => exact ⟨(([] : List Int)), (2), (by first | rfl | (simp; done) | (simp [*]; done)), H', ⟨Nat.le_refl _⟩, ⟨by first | exact Kd.R_nil _ _ _ _ _ | exact Kd.N_nil _ _ _ _ _ | exact Kd.V_nil _ _ _ _ _ | exact Kd.Q_nil _ _ _ _ _ | exact Kd.S_nil _ _ _ _ _⟩, ⟨by apply_rules [HB.out, below_alloc, pw_below_drewN, below_drew1]⟩⟩
 case round =>
  clear H'
  obtain ⟨x3_1, x4_1, rfl, HA, HK1, HO_3, HB⟩ := hrel
  cases gk with
  | zero => exact absurd HA.out (by simp [schismalaw11_all.l0])
  | succ k1 =>
   have H := HA.out
   clear HA
   simp only [schismalaw11_all.l0] at H
   obtain ⟨ji2, hji2⟩ : ∃ j_ : Int, (mn a0 97) = j_ := ⟨_, rfl⟩
   replace H : (if x4_1 ≤ (ji2) then ((schismalaw11_isPrime.f k1 x4_1).bind fun t1104 => (if t1104 = true then (if x3_1.length < 17592186044416 then (schismalaw11_all.l0 k1 a0 (x3_1 ++ [x4_1]) (wrap64 (x4_1 + 1))) else (none)) else (schismalaw11_all.l0 k1 a0 x3_1 (wrap64 (x4_1 + 1))))) else (some x3_1)) = some r := by first | (rw [hji2] at H; exact H) | (simp only [hji2] at H ⊢; exact H)
   have hji2_ : (if 97 < a0 then 97 else a0) = ji2 := hji2
   by_cases c3 : x4_1 ≤ (ji2)
   ·rw [if_pos c3] at H
    have c3b0 : decide (x4_1 ≤ (ji2)) = true := decide_eq_true c3
    clear c3
    replace H := Option.bind_eq_some_iff.mp H
    obtain ⟨t1104, A40, H⟩ := H
    try dsimp only at H
    have A4 := Aside0.mk A40
    clear A40
    by_cases c5 : t1104 = true
    ·subst c5
     have H1 : (if x3_1.length < 17592186044416 then (schismalaw11_all.l0 k1 a0 (x3_1 ++ [x4_1]) (wrap64 (x4_1 + 1))) else (none)) = some r := by rw [if_pos rfl] at H; exact H
     clear H
     have H := H1
     clear H1
     by_cases c6 : x3_1.length < 17592186044416
     case neg => rw [if_neg c6] at H; exact absurd H (by simp)
     rw [if_pos c6] at H
     have LMc6 := Aside0.mk c6
     clear c6
     obtain ⟨y1105, hy1105⟩ : ∃ y_ : List Int, y_ = (x3_1 ++ [x4_1]) := ⟨_, rfl⟩
     replace H : (schismalaw11_all.l0 k1 a0 y1105 (wrap64 (x4_1 + 1))) = some r := by first | (rw [hy1105]; with_reducible exact H) | (have H2_ := (Option.bind_some _ _).symm.trans H; rw [hy1105]; with_reducible exact H2_) | (have H2_ := (Option.bind_some _ _).symm.trans H; with_reducible exact H2_) | with_reducible exact H | (rw [hy1105]; exact H) | exact H
     have Ny1105 := Aside0.mk hy1105
     clear hy1105
     have H' := Aside0.mk H
     clear H
     go_wp2_with (first | ((with_reducible refine gate_callee (f := 60) rfl ?_); refine goesK (some 12) Tryz.func60 [.int .i64 x4_1] rfl rfl ?_; (with_reducible refine (schismalaw11_isPrime.calls k1 x4_1 true _ A4.out).mono ?_); rintro e w' ⟨rfl, ⟨nd, rfl⟩⟩; refine ⟨_, rfl, ?_⟩) | ((with_reducible refine gate_builtin (b := .append) (xs := #[.tmp 13, .tmp 15]) rfl ?_); at_builtin; refine Kd.R_append (Kd.int .i64) (w0 := w) w.heap.size rfl (.tmp 13) (.tmp 15) 23 3 (.int .i64 0) 8 rfl Tryz.underlying23 info3 rfl (by decide) (by omega) u3 x3_1 x4_1 [.int .i64 x4_1] (fun _ => True) (fun _ => False) rfl rfl ?aP (fun _ hk => hk.elim) ?aF ?aO ?aB ?aS ?aL ?_; (case aP => exact rfl); (case aB => exact (by apply_rules [HB.out, below_alloc, pw_below_drewN, below_drew1])); (case aF => exact (fun _ _ => trivial)); (case aO => exact (by apply_rules [HO_3.out, Kd.R_alloc, Kd.R_drewN, Kd.R_drew])); (case aS => exact (below_size (by apply_rules [HB.out, below_alloc, pw_below_drewN, below_drew1]))); (case aL => have := LMc6.out; omega); intro v1106 w7 ho hb hg hat; rw [← Ny1105.out] at ho; replace HB := Aside0.mk (hb); have HO1107 := Aside0.mk (ho); clear HO_3; clear ho hb hg hat))
     go_roundg k1
     case measure => have := HK1.out; omega
     case rel => exact ⟨(y1105), (wrap64 (x4_1 + 1)), (by first | rfl | (simp; done) | (simp [*]; done)), H', ⟨by have := HK1.out; omega⟩, ⟨by apply_rules [HO1107.out, Kd.R_alloc, Kd.R_drewN, Kd.R_drew]⟩, ⟨by apply_rules [HB.out, below_alloc, pw_below_drewN, below_drew1]⟩⟩
    ·replace c5 := Bool.eq_false_iff.mpr c5
     subst c5
     have H1 : (schismalaw11_all.l0 k1 a0 x3_1 (wrap64 (x4_1 + 1))) = some r := by rw [if_neg (show ¬ (false = true) by decide)] at H; exact H
     clear H
     have H := H1
     clear H1
     have H' := Aside0.mk H
     clear H
     go_wp2_with (first | ((with_reducible refine gate_callee (f := 60) rfl ?_); refine goesK (some 12) Tryz.func60 [.int .i64 x4_1] rfl rfl ?_; (with_reducible refine (schismalaw11_isPrime.calls k1 x4_1 false _ A4.out).mono ?_); rintro e w' ⟨rfl, ⟨nd, rfl⟩⟩; refine ⟨_, rfl, ?_⟩))
     go_roundg k1
     case measure => have := HK1.out; omega
     case rel => exact ⟨(x3_1), (wrap64 (x4_1 + 1)), (by first | rfl | (simp; done) | (simp [*]; done)), H', ⟨by have := HK1.out; omega⟩, ⟨by apply_rules [HO_3.out, Kd.R_alloc, Kd.R_drewN, Kd.R_drew]⟩, ⟨by apply_rules [HB.out, below_alloc, pw_below_drewN, below_drew1]⟩⟩
   ·rw [if_neg c3] at H
    have c3b0 : decide (x4_1 ≤ (ji2)) = false := decide_eq_false c3
    clear c3
    obtain rfl := Option.some.inj H
    go_wp2
    go_ret
    exact ⟨_, by first | rfl | (simp [errW_none, errW_some] <;> rfl) | (simp only [← hji2]; first | rfl | (simp [errW_none, errW_some] <;> rfl)) | (simp [*, errW_none, errW_some] <;> rfl), by (with_reducible repeat (first | apply Kd.R_alloc | apply Kd.R_drewN | apply Kd.R_drew)); exact HO_3.out, by apply_rules [HB.out, below_alloc, pw_below_drewN, below_drew1]⟩
end Go.Proofs.YtccebdpjdpjgnaaGreatDoor.P
end
section
namespace Go.Proofs.YtccebdpjdpjgnaaGreatDoor.P
open Go.RowKit Go.Proofs.YtccebdpjdpjgnaaGreatDoorW.PrintWords Go.Proofs.YtccebdpjdpjgnaaGreatDoorW.PrintLast Go.Proofs.YtccebdpjdpjgnaaGreatDoorW.PrintMore
attribute [local go_sem] max2_int min2_int max_two min_two max_three min_three max_four min_four
mutual
def schismalaw11_PrimeExponents.j0 : Nat → Int → Int → ByteArray → List Int → Bool → ByteArray → ByteArray → Option (Bool)
 | 0, _, _, _, _, _, _, _ => none
 | k + 1, x8, x9, x10, x12, x44, x1341000, x1341001 => if x44 = true then (schismalaw11_PrimeExponents.j1 k x8 x9 (([wrap64 (-x9)] : List Int)) (⟨#[49]⟩ : ByteArray) x10) else (schismalaw11_PrimeExponents.j1 k x8 x9 x12 x1341000 x1341001)
def schismalaw11_PrimeExponents.j1 : Nat → Int → Int → List Int → ByteArray → ByteArray → Option (Bool)
 | 0, _, _, _, _, _ => none
 | k + 1, x8, x9, x12, x1341000, x1341001 => (prime_Factor.f k (([x8] : List Int)) x1341000 x1341001).bind fun bt1350 => (if x9 > 1000 then (if bt1350.2 = 4 then (some ((bt1350.1.length : Int) == 0)) else (some false)) else (if bt1350.2 = 0 then ((api_Row_int.f k bt1350.1 x12).bind fun t1354 => (some t1354)) else (some false)))
end
def schismalaw11_PrimeExponents.f (k : Nat) (a0 : Int) (a1 : Int) (a2 : Bool) : Option (Bool) := (schismalaw11_known.f k).bind fun t1330 => (if t1330 = true then ((schismalaw11_all.f k 50).bind fun t1331 => (if (t1331.length : Int) = 0 then (none) else (if 0 ≤ (Int.tmod (wrap64 (a0)) (t1331.length : Int)) then (if (Int.tmod (wrap64 (a0)) (t1331.length : Int)) < (t1331.length : Int) then ((schismalaw11_power.f k (rd t1331 (Int.tmod (wrap64 (a0)) (t1331.length : Int))) (wrap64 (Int.tmod a1 1301))).bind fun bt1335 => ((schismaref03_From.f k bt1335.1 bt1335.2).bind fun t1339 => (if (t1339.size : Int) > 400 then (some true) else ((some (([wrap64 (Int.tmod a1 1301)] : List Int) : List Int)).bind fun y1341 => (if a2 = true then (schismalaw11_PrimeExponents.j0 k (rd t1331 (Int.tmod (wrap64 (a0)) (t1331.length : Int))) (wrap64 (Int.tmod a1 1301)) t1339 y1341 (decide ((wrap64 (Int.tmod a1 1301)) > 0)) t1339 (⟨#[49]⟩ : ByteArray)) else (schismalaw11_PrimeExponents.j0 k (rd t1331 (Int.tmod (wrap64 (a0)) (t1331.length : Int))) (wrap64 (Int.tmod a1 1301)) t1339 y1341 false t1339 (⟨#[49]⟩ : ByteArray))))))) else (none)) else (none)))) else (some false))
set_option maxHeartbeats 8000000 in
set_option maxRecDepth 100000 in
theorem schismalaw11_PrimeExponents.calls (k : Nat) (a0 : Int) (a1 : Int) (a2 : Bool) (r : Bool) (w : World) (hT : TabW w) (h : schismalaw11_PrimeExponents.f k a0 a1 a2 = some r) (hr : r = true) :
  Calls Tryz.prog 15 #[.int .u8 a0, .int .u16 a1, .bool a2] w fun e w' => e = .returned (.bool r) ∧ Below w.heap.size w w' := by
 have hu38 := Tryz.underlying38
 have HB := Aside0.mk (Below.refl w.heap.size w)
 have H : ((schismalaw11_known.f k).bind fun t1330 => (if t1330 = true then ((schismalaw11_all.f k 50).bind fun t1331 => (if (t1331.length : Int) = 0 then (none) else (if 0 ≤ (Int.tmod (wrap64 (a0)) (t1331.length : Int)) then (if (Int.tmod (wrap64 (a0)) (t1331.length : Int)) < (t1331.length : Int) then ((schismalaw11_power.f k (rd t1331 (Int.tmod (wrap64 (a0)) (t1331.length : Int))) (wrap64 (Int.tmod a1 1301))).bind fun bt1335 => ((schismaref03_From.f k bt1335.1 bt1335.2).bind fun t1339 => (if (t1339.size : Int) > 400 then (some true) else ((some (([wrap64 (Int.tmod a1 1301)] : List Int) : List Int)).bind fun y1341 => (if a2 = true then (schismalaw11_PrimeExponents.j0 k (rd t1331 (Int.tmod (wrap64 (a0)) (t1331.length : Int))) (wrap64 (Int.tmod a1 1301)) t1339 y1341 (decide ((wrap64 (Int.tmod a1 1301)) > 0)) t1339 (⟨#[49]⟩ : ByteArray)) else (schismalaw11_PrimeExponents.j0 k (rd t1331 (Int.tmod (wrap64 (a0)) (t1331.length : Int))) (wrap64 (Int.tmod a1 1301)) t1339 y1341 false t1339 (⟨#[49]⟩ : ByteArray))))))) else (none)) else (none)))) else (some false))) = some r := h
 clear h
 replace H := Option.bind_eq_some_iff.mp H
 obtain ⟨t1330, A40, H⟩ := H
 try dsimp only at H
 have A4 := Aside0.mk A40
 clear A40
 by_cases c5 : t1330 = true
 ·subst c5
  have H1 : ((schismalaw11_all.f k 50).bind fun t1331 => (if (t1331.length : Int) = 0 then (none) else (if 0 ≤ (Int.tmod (wrap64 (a0)) (t1331.length : Int)) then (if (Int.tmod (wrap64 (a0)) (t1331.length : Int)) < (t1331.length : Int) then ((schismalaw11_power.f k (rd t1331 (Int.tmod (wrap64 (a0)) (t1331.length : Int))) (wrap64 (Int.tmod a1 1301))).bind fun bt1335 => ((schismaref03_From.f k bt1335.1 bt1335.2).bind fun t1339 => (if (t1339.size : Int) > 400 then (some true) else ((some (([wrap64 (Int.tmod a1 1301)] : List Int) : List Int)).bind fun y1341 => (if a2 = true then (schismalaw11_PrimeExponents.j0 k (rd t1331 (Int.tmod (wrap64 (a0)) (t1331.length : Int))) (wrap64 (Int.tmod a1 1301)) t1339 y1341 (decide ((wrap64 (Int.tmod a1 1301)) > 0)) t1339 (⟨#[49]⟩ : ByteArray)) else (schismalaw11_PrimeExponents.j0 k (rd t1331 (Int.tmod (wrap64 (a0)) (t1331.length : Int))) (wrap64 (Int.tmod a1 1301)) t1339 y1341 false t1339 (⟨#[49]⟩ : ByteArray))))))) else (none)) else (none)))) = some r := by rw [if_pos rfl] at H; exact H
  clear H
  have H := H1
  clear H1
  replace H := Option.bind_eq_some_iff.mp H
  obtain ⟨t1331, A60, H⟩ := H
  try dsimp only at H
  have A6 := Aside0.mk A60
  clear A60
  by_cases c7 : (t1331.length : Int) = 0
  case pos => rw [if_pos c7] at H; exact absurd H (by simp)
  rw [if_neg c7] at H
  have c7b0 : ((t1331.length : Int) == 0) = false := beq_eq_false_iff_ne.mpr c7
  have c7b1 : ((t1331.length : Int) != 0) = true := bne_iff_ne.mpr c7
  have c7b2 : ¬ (t1331 = []) := fun h_ => c7 (by rw [h_]; rfl)
  obtain ⟨ji8, hji8⟩ : ∃ j_ : Int, (Int.tmod (wrap64 (a0)) (t1331.length : Int)) = j_ := ⟨_, rfl⟩
  replace H : (if 0 ≤ (ji8) then (if (ji8) < (t1331.length : Int) then ((schismalaw11_power.f k (rd t1331 (ji8)) (wrap64 (Int.tmod a1 1301))).bind fun bt1335 => ((schismaref03_From.f k bt1335.1 bt1335.2).bind fun t1339 => (if (t1339.size : Int) > 400 then (some true) else ((some (([wrap64 (Int.tmod a1 1301)] : List Int) : List Int)).bind fun y1341 => (if a2 = true then (schismalaw11_PrimeExponents.j0 k (rd t1331 (ji8)) (wrap64 (Int.tmod a1 1301)) t1339 y1341 (decide ((wrap64 (Int.tmod a1 1301)) > 0)) t1339 (⟨#[49]⟩ : ByteArray)) else (schismalaw11_PrimeExponents.j0 k (rd t1331 (ji8)) (wrap64 (Int.tmod a1 1301)) t1339 y1341 false t1339 (⟨#[49]⟩ : ByteArray))))))) else (none)) else (none)) = some r := by first | (rw [hji8] at H; exact H) | (simp only [hji8] at H ⊢; exact H)
  (try rw [hji8] at A4)
  (try rw [hji8] at A6)
  by_cases c9 : 0 ≤ (ji8)
  case neg => rw [if_neg c9] at H; exact absurd H (by simp)
  rw [if_pos c9] at H
  have c9b0 : decide (0 ≤ (ji8)) = true := decide_eq_true c9
  clear c9
  by_cases c10 : (ji8) < (t1331.length : Int)
  case neg => rw [if_neg c10] at H; exact absurd H (by simp)
  rw [if_pos c10] at H
  have c10b0 : decide ((ji8) < (t1331.length : Int)) = true := decide_eq_true c10
  clear c10
  replace H := Option.bind_eq_some_iff.mp H
  obtain ⟨⟨t1335, t1336⟩, A110, H⟩ := H
  try dsimp only at H
  have A11 := Aside0.mk A110
  clear A110
  replace H := Option.bind_eq_some_iff.mp H
  obtain ⟨t1339, A120, H⟩ := H
  try dsimp only at H
  have A12 := Aside0.mk A120
  clear A120
  by_cases c13 : (t1339.size : Int) > 400
  ·rw [if_pos c13] at H
   have c13b0 : decide (400 < (t1339.size : Int)) = true := decide_eq_true c13
   have c13b1 : decide (400 < t1339.size) = true := decide_eq_true (by omega)
   clear c13
   obtain rfl := Option.some.inj H
   go_enter Tryz.func15, Tryz.ntmps15
   go_wp2_with (first | ((with_reducible refine gate_callee (f := 58) rfl ?_); refine goesK (some 15) Tryz.func58 [] rfl rfl ?_; (with_reducible refine (schismalaw11_known.calls k  true _ ?side1 A4.out (by first | rfl | assumption)).mono ?_); (case side1 => refine TabW.below hT ?_; apply_rules [HB.out, below_alloc, pw_below_drewN, below_drew1]); rintro e w14 ⟨rfl, hb⟩; refine ⟨_, rfl, ?_⟩; replace HB := Aside0.mk (below_step (by apply_rules [HB.out, below_alloc, pw_below_drewN, below_drew1]) hb); (try clear hb)) | ((with_reducible refine gate_callee (f := 64) rfl ?_); refine goesK (some 17) Tryz.func64 [.int .i64 50] rfl rfl ?_; (with_reducible refine (schismalaw11_all.calls k 50 t1331 _ A6.out).mono ?_); rintro e w15 ⟨v1332, rfl, ho0, hb⟩; refine ⟨_, rfl, ?_⟩; have HO1333 := Aside0.mk (Kd.R_lower ho0 (below_size (by apply_rules [HB.out, below_alloc, pw_below_drewN, below_drew1]))); replace HB := Aside0.mk (below_step (by apply_rules [HB.out, below_alloc, pw_below_drewN, below_drew1]) hb); (try clear hb); (try clear ho0); obtain ⟨Ao16, co16, eo16⟩ := Kd.R_slice HO1333.out; subst eo16; have p1334 : 0 ≤ ((ji8) : Int) := of_decide_eq_true (by assumption); have q1334 : (ji8) < (t1331.length : Int) := of_decide_eq_true (by assumption); obtain ⟨ad1334, e1334, hx1334_0⟩ := Kd.at_int (Kd.R_reads' HO1333.out).2.2 (ji8) p1334 q1334; cases e1334; replace p1334 := eq_true p1334; replace q1334 := eq_true q1334) | ((with_reducible refine gate_callee (f := 77) rfl ?_); refine goesL_ (some 31) rfl rfl Tryz.func77 (by kernel_rfl) rfl #[.int .i64 (rd t1331 (ji8)), .int .i64 (wrap64 (Int.tmod a1 1301))] rfl (by (try simp only [List.map_toArray, List.map_cons, List.map_nil]); first | done | (simp only [hji8]; rfl) | rfl | (simp only [List.length_drop, List.length_take]; rfl)) ?_; (with_reducible refine (schismalaw11_power.calls k (rd t1331 (ji8)) (wrap64 (Int.tmod a1 1301)) t1335 t1336 _ ?side1 A11.out).mono ?_); (case side1 => refine TabW.below hT ?_; apply_rules [HB.out, below_alloc, pw_below_drewN, below_drew1]); rintro e w17 ⟨v1337, rfl, ho0, hb⟩; refine ⟨_, rfl, ?_⟩; have n0_ := Aside0.mk (Kd.R_below (by apply_rules [HO1333.out, Kd.R_alloc, Kd.R_drewN, Kd.R_drew]) hb); have n1_ := Aside0.mk (Kd.V_lower (Kd.V_mono (ok' := fun k_ => some k_ ≠ (.slice (some ad1334) t1331.length co16 : Value).ownBlock) ho0 (fun k_ hk_ => (Kd.fresh' (Kd.R_lt (by apply_rules [HO1333.out, Kd.R_alloc, Kd.R_drewN, Kd.R_drew])) k_ hk_))) (below_size (by apply_rules [HB.out, below_alloc, pw_below_drewN, below_drew1]))); have n2_ := Aside0.mk (below_step (by apply_rules [HB.out, below_alloc, pw_below_drewN, below_drew1]) hb); clear HO1333; clear HB; have HO1333 := n0_; have HO1338 := n1_; have HB := n2_; clear n0_ n1_ n2_; (try clear hb); (try clear ho0); obtain ⟨Ao18, co18, eo18⟩ := Kd.V_slice HO1338.out; subst eo18) | ((with_reducible refine gate_callee (f := 76) rfl ?_); refine goesK (some 32) Tryz.func76 [.agg #[.bool t1335, .slice Ao18 t1336.length co18]] rfl rfl ?_; (with_reducible refine (schismaref03_From.calls k t1335 _ _ t1336 t1339 _ ?side1 ?side2 ?side3 A12.out).mono ?_); (case side1 => refine TabW.below hT ?_; apply_rules [HB.out, below_alloc, pw_below_drewN, below_drew1]); (case side2 => apply_rules [(Kd.V_reads' HO1338.out).2.2, Kd.C_alloc, Kd.C_drewN, Kd.C_drew]); (case side3 => exact (Kd.V_reads' HO1338.out).2.1); rintro e w19 ⟨rfl, hb⟩; refine ⟨_, rfl, ?_⟩; replace HO1333 := Aside0.mk (Kd.R_below (by apply_rules [HO1333.out, Kd.R_alloc, Kd.R_drewN, Kd.R_drew]) hb); replace HO1338 := Aside0.mk (Kd.V_below (by apply_rules [HO1338.out, Kd.V_alloc, Kd.V_drewN, Kd.V_drew]) hb); replace HB := Aside0.mk (below_step (by apply_rules [HB.out, below_alloc, pw_below_drewN, below_drew1]) hb); (try clear hb)))
   go_ret
   exact ⟨by first | rfl | (simp [errW_none, errW_some] <;> rfl) | (simp only [← hji8]; first | rfl | (simp [errW_none, errW_some] <;> rfl)) | (simp [*, errW_none, errW_some] <;> rfl), by apply_rules [HB.out, below_alloc, pw_below_drewN, below_drew1]⟩
  ·rw [if_neg c13] at H
   have c13b0 : decide (400 < (t1339.size : Int)) = false := decide_eq_false c13
   have c13b1 : decide (400 < t1339.size) = false := decide_eq_false (by omega)
   clear c13
   obtain ⟨y1341, hy1341⟩ : ∃ y_ : List Int, y_ = (([wrap64 (Int.tmod a1 1301)] : List Int)) := ⟨_, rfl⟩
   replace H : (if a2 = true then (schismalaw11_PrimeExponents.j0 k (rd t1331 (ji8)) (wrap64 (Int.tmod a1 1301)) t1339 y1341 (decide ((wrap64 (Int.tmod a1 1301)) > 0)) t1339 (⟨#[49]⟩ : ByteArray)) else (schismalaw11_PrimeExponents.j0 k (rd t1331 (ji8)) (wrap64 (Int.tmod a1 1301)) t1339 y1341 false t1339 (⟨#[49]⟩ : ByteArray))) = some r := by first | (rw [hy1341]; with_reducible exact H) | (have H2_ := (Option.bind_some _ _).symm.trans H; rw [hy1341]; with_reducible exact H2_) | (have H2_ := (Option.bind_some _ _).symm.trans H; with_reducible exact H2_) | with_reducible exact H | (rw [hy1341]; exact H) | exact H
   have Ny1341 := Aside0.mk hy1341
   clear hy1341
   have HC20 := Aside0.mk H
   clear H
   go_enter Tryz.func15, Tryz.ntmps15
   go_upto_region 10 with (first | ((with_reducible refine gate_callee (f := 58) rfl ?_); refine goesK (some 15) Tryz.func58 [] rfl rfl ?_; (with_reducible refine (schismalaw11_known.calls k  true _ ?side1 A4.out (by first | rfl | assumption)).mono ?_); (case side1 => refine TabW.below hT ?_; apply_rules [HB.out, below_alloc, pw_below_drewN, below_drew1]); rintro e w21 ⟨rfl, hb⟩; refine ⟨_, rfl, ?_⟩; replace HB := Aside0.mk (below_step (by apply_rules [HB.out, below_alloc, pw_below_drewN, below_drew1]) hb); (try clear hb)) | ((with_reducible refine gate_callee (f := 64) rfl ?_); refine goesK (some 17) Tryz.func64 [.int .i64 50] rfl rfl ?_; (with_reducible refine (schismalaw11_all.calls k 50 t1331 _ A6.out).mono ?_); rintro e w22 ⟨v1332, rfl, ho0, hb⟩; refine ⟨_, rfl, ?_⟩; have HO1333 := Aside0.mk (Kd.R_lower ho0 (below_size (by apply_rules [HB.out, below_alloc, pw_below_drewN, below_drew1]))); replace HB := Aside0.mk (below_step (by apply_rules [HB.out, below_alloc, pw_below_drewN, below_drew1]) hb); (try clear hb); (try clear ho0); obtain ⟨Ao23, co23, eo23⟩ := Kd.R_slice HO1333.out; subst eo23; have p1334 : 0 ≤ ((ji8) : Int) := of_decide_eq_true (by assumption); have q1334 : (ji8) < (t1331.length : Int) := of_decide_eq_true (by assumption); obtain ⟨ad1334, e1334, hx1334_0⟩ := Kd.at_int (Kd.R_reads' HO1333.out).2.2 (ji8) p1334 q1334; cases e1334; replace p1334 := eq_true p1334; replace q1334 := eq_true q1334) | ((with_reducible refine gate_callee (f := 77) rfl ?_); refine goesL_ (some 31) rfl rfl Tryz.func77 (by kernel_rfl) rfl #[.int .i64 (rd t1331 (ji8)), .int .i64 (wrap64 (Int.tmod a1 1301))] rfl (by (try simp only [List.map_toArray, List.map_cons, List.map_nil]); first | done | (simp only [hji8]; rfl) | rfl | (simp only [List.length_drop, List.length_take]; rfl)) ?_; (with_reducible refine (schismalaw11_power.calls k (rd t1331 (ji8)) (wrap64 (Int.tmod a1 1301)) t1335 t1336 _ ?side1 A11.out).mono ?_); (case side1 => refine TabW.below hT ?_; apply_rules [HB.out, below_alloc, pw_below_drewN, below_drew1]); rintro e w24 ⟨v1337, rfl, ho0, hb⟩; refine ⟨_, rfl, ?_⟩; have n0_ := Aside0.mk (Kd.R_below (by apply_rules [HO1333.out, Kd.R_alloc, Kd.R_drewN, Kd.R_drew]) hb); have n1_ := Aside0.mk (Kd.V_lower (Kd.V_mono (ok' := fun k_ => some k_ ≠ (.slice (some ad1334) t1331.length co23 : Value).ownBlock) ho0 (fun k_ hk_ => (Kd.fresh' (Kd.R_lt (by apply_rules [HO1333.out, Kd.R_alloc, Kd.R_drewN, Kd.R_drew])) k_ hk_))) (below_size (by apply_rules [HB.out, below_alloc, pw_below_drewN, below_drew1]))); have n2_ := Aside0.mk (below_step (by apply_rules [HB.out, below_alloc, pw_below_drewN, below_drew1]) hb); clear HO1333; clear HB; have HO1333 := n0_; have HO1338 := n1_; have HB := n2_; clear n0_ n1_ n2_; (try clear hb); (try clear ho0); obtain ⟨Ao25, co25, eo25⟩ := Kd.V_slice HO1338.out; subst eo25) | ((with_reducible refine gate_callee (f := 76) rfl ?_); refine goesK (some 32) Tryz.func76 [.agg #[.bool t1335, .slice Ao25 t1336.length co25]] rfl rfl ?_; (with_reducible refine (schismaref03_From.calls k t1335 _ _ t1336 t1339 _ ?side1 ?side2 ?side3 A12.out).mono ?_); (case side1 => refine TabW.below hT ?_; apply_rules [HB.out, below_alloc, pw_below_drewN, below_drew1]); (case side2 => apply_rules [(Kd.V_reads' HO1338.out).2.2, Kd.C_alloc, Kd.C_drewN, Kd.C_drew]); (case side3 => exact (Kd.V_reads' HO1338.out).2.1); rintro e w26 ⟨rfl, hb⟩; refine ⟨_, rfl, ?_⟩; replace HO1333 := Aside0.mk (Kd.R_below (by apply_rules [HO1333.out, Kd.R_alloc, Kd.R_drewN, Kd.R_drew]) hb); replace HO1338 := Aside0.mk (Kd.V_below (by apply_rules [HO1338.out, Kd.V_alloc, Kd.V_drewN, Kd.V_drew]) hb); replace HB := Aside0.mk (below_step (by apply_rules [HB.out, below_alloc, pw_below_drewN, below_drew1]) hb); (try clear hb)) | ((with_reducible refine gate_dst (N := 11) rfl ?_); (try (refine gate_guard (by rfl) ?_; dsimp only)); refine box_event ?hg (N := 11) ?hd (cs := #[.string (⟨#[]⟩ : ByteArray), .string (⟨#[]⟩ : ByteArray)]) (t := 38) ?hr ?_; (case hd => rfl); (case hg => rfl); (case hr => go_simp; try rfl); intro gb1340 hg w27 hbox hb; have n0_ := Aside0.mk (Kd.R_below (by apply_rules [HO1333.out, Kd.R_alloc, Kd.R_drewN, Kd.R_drew]) hb); have n1_ := Aside0.mk (Kd.V_below (Kd.V_elderB (by apply_rules [HO1338.out, Kd.V_alloc, Kd.V_drewN, Kd.V_drew]) gb1340 (Nat.le_of_eq hg.symm)) hb); have n2_ := Aside0.mk (below_step (by apply_rules [HB.out, below_alloc, pw_below_drewN, below_drew1]) hb); have n3_ := Aside0.mk (hbox); have n4_ := Aside0.mk ((by rw [hg]; exact (below_size (by apply_rules [HB.out, below_alloc, pw_below_drewN, below_drew1])) : w.heap.size ≤ gb1340)); have n5_ := Aside0.mk ((by rw [hg]; exact (below_size (by apply_rules [HB.out, below_alloc, pw_below_drewN, below_drew1])) : w.heap.size ≤ gb1340)); clear HO1333; clear HO1338; clear HB; have HO1333 := n0_; have HO1338 := n1_; have HB := n2_; have BK1340 := n3_; have GW1340 := n4_; have GE1340 := n5_; clear n0_ n1_ n2_ n3_ n4_ n5_; clear hb hbox hg; have hcz28_0 : w27.cell? ⟨gb1340, 0, none⟩ = some (.string (⟨#[]⟩ : ByteArray)) := (blk_cell BK1340.out 0).trans rfl; have hcz28_1 : w27.cell? ⟨gb1340, 1, none⟩ = some (.string (⟨#[]⟩ : ByteArray)) := (blk_cell BK1340.out 1).trans rfl; have hfz28_0 := blk_frozen BK1340.out 0; have hfz28_1 := blk_frozen BK1340.out 1) | ((with_reducible refine gate_dst (N := 39) rfl ?_); (try (refine gate_guard (by rfl) ?_; dsimp only)); refine Kd.R_lit (Kd.int .i64) _ 3 ?hg (N := 39) ?hd (xs := ([wrap64 (Int.tmod a1 1301)] : List Int)) (inner := [.int .i64 (wrap64 (Int.tmod a1 1301))]) (ok := fun _ => True) (okp := fun _ => True) ?hr ?hp (fun _ hk => hk) trivial (Below.refl _ _) (Nat.le_refl _) (by simp) ?_; (case hd => rfl); (case hg => rfl); (case hr => go_simp; try rfl); (case hp => exact (Reps.one (show Kd.M (Kd.int .i64) _ _ _ (wrap64 (Int.tmod a1 1301)) [.int .i64 (wrap64 (Int.tmod a1 1301))] from rfl) (Reps.none _ _))); intro v1342 w29 ho30 hb hg_ hnew_; clear hg_ hnew_; (first | rw [← Ny1341.out] at ho30 | (simp only [Int.reduceToNat] at ho30; rw [← Ny1341.out] at ho30)); have n0_ := Aside0.mk (Kd.R_elder' (by (with_reducible repeat (first | apply Kd.R_alloc | apply Kd.R_drewN | apply Kd.R_drew)); exact (Kd.R_mono (Kd.R_far (p := ⟨gb1340, 1, none⟩) (Kd.R_far (p := ⟨gb1340, 0, none⟩) (Kd.R_types HO1333.out BK1340.out (by decide)) (fun _ hk => hk.2) (.string t1339)) (fun _ hk => hk.2) (.string (⟨#[49]⟩ : ByteArray))) (fun _ h_ => h_.1))) (Kd.R_base ho30) hb); have n1_ := Aside0.mk (Kd.V_elder' (by (with_reducible repeat (first | apply Kd.V_alloc | apply Kd.V_drewN | apply Kd.V_drew)); exact (Kd.V_mono (Kd.V_far (p := ⟨gb1340, 1, none⟩) (Kd.V_far (p := ⟨gb1340, 0, none⟩) (Kd.V_mono HO1338.out (fun k_ hk => (⟨hk, hk.2⟩ : _ ∧ k_ ≠ gb1340))) (fun _ hk => hk.2) (.string t1339)) (fun _ hk => hk.2) (.string (⟨#[49]⟩ : ByteArray))) (fun _ h_ => h_.1))) (Kd.R_base ho30) hb); have n2_ := Aside0.mk (Kd.R_lower (Kd.R_new' ho30 (Kd.R_lt (by (with_reducible repeat (first | apply Kd.R_alloc | apply Kd.R_drewN | apply Kd.R_drew)); exact (Kd.R_mono (Kd.R_far (p := ⟨gb1340, 1, none⟩) (Kd.R_far (p := ⟨gb1340, 0, none⟩) (Kd.R_types HO1333.out BK1340.out (by decide)) (fun _ hk => hk.2) (.string t1339)) (fun _ hk => hk.2) (.string (⟨#[49]⟩ : ByteArray))) (fun _ h_ => h_.1))))) (below_size (by apply_rules [HB.out, below_alloc, pw_below_drewN, below_drew1, below_set, GE1340.out]))); have n3_ := Aside0.mk (blk_below (g := gb1340) (o := .cells #[.string t1339, .string (⟨#[49]⟩ : ByteArray)] 38 (0, 0)) (by (with_reducible repeat (first | refine blk_drewN ?_ _ | refine blk_drew ?_ | refine blk_alloc ?_ _)); refine blk_put (cs := #[.string t1339, .string (⟨#[]⟩ : ByteArray)]) ?_ 1 _ rfl; (with_reducible repeat (first | refine blk_drewN ?_ _ | refine blk_drew ?_ | refine blk_alloc ?_ _)); refine blk_put (cs := #[.string (⟨#[]⟩ : ByteArray), .string (⟨#[]⟩ : ByteArray)]) ?_ 0 _ rfl; apply_rules [BK1340.out, blk_drewN, blk_drew, blk_alloc]) hb); have n4_ := Aside0.mk (below_step (by apply_rules [HB.out, below_alloc, pw_below_drewN, below_drew1, below_set, GE1340.out]) hb); clear HO1333; clear HO1338; clear BK1340; clear HB; have HO1333 := n0_; have HO1338 := n1_; have HO1343 := n2_; have BK1340 := n3_; have HB := n4_; clear n0_ n1_ n2_ n3_ n4_; clear hb ho30))
   (try simp only [Act.put, List.setIfInBounds_toArray, List.set_cons_zero, List.set_cons_succ])
   go_cut [44] (fun v44 wc => ∃ (kq : Nat) (x44_19 : Bool), v44 = .bool x44_19 ∧ Aside0 (schismalaw11_PrimeExponents.j0 kq (rd t1331 (ji8)) (wrap64 (Int.tmod a1 1301)) t1339 y1341 x44_19 t1339 (⟨#[49]⟩ : ByteArray) = some r) ∧ Aside0 (kq ≤ k) ∧ Aside0 (Kd.R (Kd.int .i64) 3 wc w.heap.size (fun _ => True) v1342 y1341) ∧ Aside0 (wc.heap[gb1340]? = some (.cells #[.string t1339, .string (⟨#[49]⟩ : ByteArray)] 38 (0, 0))) ∧ Aside0 (Below w.heap.size w wc))
   case first =>
    have H := HC20.out
    clear HC20
    by_cases c31 : a2 = true
    ·subst c31
     have H1 : (schismalaw11_PrimeExponents.j0 k (rd t1331 (ji8)) (wrap64 (Int.tmod a1 1301)) t1339 y1341 (decide ((wrap64 (Int.tmod a1 1301)) > 0)) t1339 (⟨#[49]⟩ : ByteArray)) = some r := by rw [if_pos rfl] at H; exact H
     clear H
     have H := H1
     clear H1
     have H' := Aside0.mk H
     clear H
     go_wp2
     go_meet
     case rel => exact ⟨_, (decide ((wrap64 (Int.tmod a1 1301)) > 0)), (by first | rfl | (simp; done) | (simp [*]; done)), H', ⟨by first | omega | exact Nat.le_refl _⟩, ⟨by (with_reducible repeat (first | apply Kd.R_alloc | apply Kd.R_drewN | apply Kd.R_drew)); exact Kd.R_mono HO1343.out (fun _ hk => trivial)⟩, ⟨by apply_rules [BK1340.out, blk_drewN, blk_drew, blk_alloc]⟩, ⟨by apply_rules [HB.out, below_alloc, pw_below_drewN, below_drew1, below_set, GE1340.out]⟩⟩
    ·replace c31 := Bool.eq_false_iff.mpr c31
     subst c31
     have H1 : (schismalaw11_PrimeExponents.j0 k (rd t1331 (ji8)) (wrap64 (Int.tmod a1 1301)) t1339 y1341 false t1339 (⟨#[49]⟩ : ByteArray)) = some r := by rw [if_neg (show ¬ (false = true) by decide)] at H; exact H
     clear H
     have H := H1
     clear H1
     have H' := Aside0.mk H
     clear H
     go_wp2
     go_meet
     case rel => exact ⟨_, (false), (by first | rfl | (simp; done) | (simp [*]; done)), H', ⟨by first | omega | exact Nat.le_refl _⟩, ⟨by (with_reducible repeat (first | apply Kd.R_alloc | apply Kd.R_drewN | apply Kd.R_drew)); exact Kd.R_mono HO1343.out (fun _ hk => trivial)⟩, ⟨by apply_rules [BK1340.out, blk_drewN, blk_drew, blk_alloc]⟩, ⟨by apply_rules [HB.out, below_alloc, pw_below_drewN, below_drew1, below_set, GE1340.out]⟩⟩
   case rest =>
    clear HC20
    obtain ⟨kq, x44_19, rfl, HA, HJ19, HO_12, BK1340, HB⟩ := hcut
    cases kq with
    | zero => exact absurd HA.out (by simp [schismalaw11_PrimeExponents.j0])
    | succ kj19 =>
     have H := HA.out
     clear HA
     simp only [schismalaw11_PrimeExponents.j0] at H
     have HC32 := Aside0.mk H
     clear H
     go_upto_if 44 with (fail)
     go_cut [12] (fun v12 wc => ∃ (kq : Nat) (x12_31 : List Int) (x1341000_31 : ByteArray) (x1341001_31 : ByteArray), Aside0 (schismalaw11_PrimeExponents.j1 kq (rd t1331 (ji8)) (wrap64 (Int.tmod a1 1301)) x12_31 x1341000_31 x1341001_31 = some r) ∧ Aside0 (kq ≤ kj19) ∧ Aside0 (Kd.R (Kd.int .i64) 3 wc w.heap.size (fun _ => True) v12 x12_31) ∧ Aside0 (wc.heap[gb1340]? = some (.cells #[.string x1341000_31, .string x1341001_31] 38 (0, 0))) ∧ Aside0 (Below w.heap.size w wc))
     case first =>
      have H := HC32.out
      clear HC32
      by_cases c33 : x44_19 = true
      ·subst c33
       have H1 : (schismalaw11_PrimeExponents.j1 kj19 (rd t1331 (ji8)) (wrap64 (Int.tmod a1 1301)) (([wrap64 (-(wrap64 (Int.tmod a1 1301)))] : List Int)) (⟨#[49]⟩ : ByteArray) t1339) = some r := by rw [if_pos rfl] at H; exact H
       clear H
       have H := H1
       clear H1
       obtain ⟨y1344, hy1344⟩ : ∃ y_ : List Int, y_ = (([wrap64 (-(wrap64 (Int.tmod a1 1301)))] : List Int)) := ⟨_, rfl⟩
       replace H : (schismalaw11_PrimeExponents.j1 kj19 (rd t1331 (ji8)) (wrap64 (Int.tmod a1 1301)) y1344 (⟨#[49]⟩ : ByteArray) t1339) = some r := by first | (rw [hy1344]; with_reducible exact H) | (have H2_ := (Option.bind_some _ _).symm.trans H; rw [hy1344]; with_reducible exact H2_) | (have H2_ := (Option.bind_some _ _).symm.trans H; with_reducible exact H2_) | with_reducible exact H | (rw [hy1344]; exact H) | exact H
       have Ny1344 := Aside0.mk hy1344
       clear hy1344
       have H' := Aside0.mk H
       clear H
       go_wp2_with (first | ((with_reducible refine gate_dst (N := 49) rfl ?_); (try (refine gate_guard (by rfl) ?_; dsimp only)); refine Kd.R_lit (Kd.int .i64) _ 3 ?hg (N := 49) ?hd (xs := ([wrap64 (-(wrap64 (Int.tmod a1 1301)))] : List Int)) (inner := [.int .i64 (wrap64 (-(wrap64 (Int.tmod a1 1301))))]) (ok := fun _ => True) (okp := fun _ => True) ?hr ?hp (fun _ hk => hk) trivial (Below.refl _ _) (Nat.le_refl _) (by simp) ?_; (case hd => rfl); (case hg => rfl); (case hr => go_simp; try rfl); (case hp => exact (Reps.one (show Kd.M (Kd.int .i64) _ _ _ (wrap64 (-(wrap64 (Int.tmod a1 1301)))) [.int .i64 (wrap64 (-(wrap64 (Int.tmod a1 1301))))] from rfl) (Reps.none _ _))); intro v1345 w34 ho35 hb hg_ hnew_; clear hg_ hnew_; (first | rw [← Ny1344.out] at ho35 | (simp only [Int.reduceToNat] at ho35; rw [← Ny1344.out] at ho35)); have n0_ := Aside0.mk (Kd.R_elder' (by apply_rules [HO_12.out, Kd.R_alloc, Kd.R_drewN, Kd.R_drew]) (Kd.R_base ho35) hb); have n1_ := Aside0.mk (Kd.R_lower (Kd.R_new' ho35 (Kd.R_lt (by apply_rules [HO_12.out, Kd.R_alloc, Kd.R_drewN, Kd.R_drew]))) (below_size (by apply_rules [HB.out, below_alloc, pw_below_drewN, below_drew1, below_set, GE1340.out]))); have n2_ := Aside0.mk (blk_below (g := gb1340) (o := .cells #[.string t1339, .string (⟨#[49]⟩ : ByteArray)] 38 (0, 0)) (by apply_rules [BK1340.out, blk_drewN, blk_drew, blk_alloc]) hb); have n3_ := Aside0.mk (below_step (by apply_rules [HB.out, below_alloc, pw_below_drewN, below_drew1, below_set, GE1340.out]) hb); clear HO_12; clear BK1340; clear HB; have HO_12 := n0_; have HO1346 := n1_; have BK1340 := n2_; have HB := n3_; clear n0_ n1_ n2_ n3_; clear hb ho35; have hcz36_0 : w34.cell? ⟨gb1340, 0, none⟩ = some (.string t1339) := (blk_cell BK1340.out 0).trans rfl; have hcz36_1 : w34.cell? ⟨gb1340, 1, none⟩ = some (.string (⟨#[49]⟩ : ByteArray)) := (blk_cell BK1340.out 1).trans rfl; have hfz36_0 := blk_frozen BK1340.out 0; have hfz36_1 := blk_frozen BK1340.out 1))
       go_meet
       case rel => exact ⟨_, (y1344), ((⟨#[49]⟩ : ByteArray)), (t1339), H', ⟨by have := HJ19.out; first | omega | exact Nat.le_refl _⟩, ⟨by (with_reducible repeat (first | apply Kd.R_alloc | apply Kd.R_drewN | apply Kd.R_drew)); exact Kd.R_mono (Kd.R_far (p := ⟨gb1340, 1, none⟩) (Kd.R_far (p := ⟨gb1340, 0, none⟩) (Kd.R_types HO1346.out BK1340.out (by decide)) (fun _ hk => hk.2) (.string (⟨#[49]⟩ : ByteArray))) (fun _ hk => hk.2) (.string t1339)) (fun _ hk => trivial)⟩, ⟨by (with_reducible repeat (first | refine blk_drewN ?_ _ | refine blk_drew ?_ | refine blk_alloc ?_ _)); refine blk_put (cs := #[.string (⟨#[49]⟩ : ByteArray), .string (⟨#[49]⟩ : ByteArray)]) ?_ 1 _ rfl; (with_reducible repeat (first | refine blk_drewN ?_ _ | refine blk_drew ?_ | refine blk_alloc ?_ _)); refine blk_put (cs := #[.string t1339, .string (⟨#[49]⟩ : ByteArray)]) ?_ 0 _ rfl; apply_rules [BK1340.out, blk_drewN, blk_drew, blk_alloc]⟩, ⟨by apply_rules [HB.out, below_alloc, pw_below_drewN, below_drew1, below_set, GE1340.out]⟩⟩
      ·replace c33 := Bool.eq_false_iff.mpr c33
       subst c33
       have H1 : (schismalaw11_PrimeExponents.j1 kj19 (rd t1331 (ji8)) (wrap64 (Int.tmod a1 1301)) y1341 t1339 (⟨#[49]⟩ : ByteArray)) = some r := by rw [if_neg (show ¬ (false = true) by decide)] at H; exact H
       clear H
       have H := H1
       clear H1
       have H' := Aside0.mk H
       clear H
       go_wp2
       go_meet
       case rel => exact ⟨_, (y1341), (t1339), ((⟨#[49]⟩ : ByteArray)), H', ⟨by have := HJ19.out; first | omega | exact Nat.le_refl _⟩, ⟨by apply_rules [HO_12.out, Kd.R_alloc, Kd.R_drewN, Kd.R_drew]⟩, ⟨by apply_rules [BK1340.out, blk_drewN, blk_drew, blk_alloc]⟩, ⟨by apply_rules [HB.out, below_alloc, pw_below_drewN, below_drew1, below_set, GE1340.out]⟩⟩
     case rest =>
      clear HC32
      obtain ⟨kq, x12_31, x1341000_31, x1341001_31, HA, HJ31, HO_12, BK1340, HB⟩ := hcut
      cases kq with
      | zero => exact absurd HA.out (by simp [schismalaw11_PrimeExponents.j1])
      | succ kj31 =>
       have H := HA.out
       clear HA
       simp only [schismalaw11_PrimeExponents.j1] at H
       obtain ⟨y1347, hy1347⟩ : ∃ y_ : List Int, y_ = (([(rd t1331 (ji8))] : List Int)) := ⟨_, rfl⟩
       replace H : ((prime_Factor.f kj31 y1347 x1341000_31 x1341001_31).bind fun bt1350 => (if (wrap64 (Int.tmod a1 1301)) > 1000 then (if bt1350.2 = 4 then (some ((bt1350.1.length : Int) == 0)) else (some false)) else (if bt1350.2 = 0 then ((api_Row_int.f kj31 bt1350.1 x12_31).bind fun t1354 => (some t1354)) else (some false)))) = some r := by first | (rw [hy1347]; with_reducible exact H) | (have H2_ := (Option.bind_some _ _).symm.trans H; rw [hy1347]; with_reducible exact H2_) | (have H2_ := (Option.bind_some _ _).symm.trans H; with_reducible exact H2_) | with_reducible exact H | (rw [hy1347]; exact H) | exact H
       have Ny1347 := Aside0.mk hy1347
       clear hy1347
       replace H := Option.bind_eq_some_iff.mp H
       obtain ⟨⟨t1350, t1353⟩, A370, H⟩ := H
       try dsimp only at H
       have A37 := Aside0.mk A370
       clear A370
       by_cases c38 : (wrap64 (Int.tmod a1 1301)) > 1000
       ·rw [if_pos c38] at H
        have c38b0 : decide (1000 < (wrap64 (Int.tmod a1 1301))) = true := decide_eq_true c38
        clear c38
        by_cases c39 : t1353 = 4
        case neg => rw [if_neg c39] at H; have c39b0 : (t1353 == 4) = false := beq_eq_false_iff_ne.mpr c39; have c39b1 : (t1353 != 4) = true := bne_iff_ne.mpr c39; exact absurd ((Option.some.inj H).trans hr) Bool.false_ne_true
        rw [if_pos c39] at H
        have c39b0 : (t1353 == 4) = true := beq_iff_eq.mpr c39
        have c39b1 : (t1353 != 4) = false := bne_eq_false_iff_eq.mpr c39
        clear c39
        obtain rfl := Option.some.inj H
        go_wp2_with (first | ((with_reducible refine gate_dst (N := 52) rfl ?_); (try (refine gate_guard (by rfl) ?_; dsimp only)); refine Kd.R_lit (Kd.int .i64) _ 3 ?hg (N := 52) ?hd (xs := ([(rd t1331 (ji8))] : List Int)) (inner := [.int .i64 (rd t1331 (ji8))]) (ok := fun _ => True) (okp := fun _ => True) ?hr ?hp (fun _ hk => hk) trivial (Below.refl _ _) (Nat.le_refl _) (by simp) ?_; (case hd => rfl); (case hg => rfl); (case hr => go_simp; try rfl); (case hp => exact (Reps.one (show Kd.M (Kd.int .i64) _ _ _ (rd t1331 (ji8)) [.int .i64 (rd t1331 (ji8))] from rfl) (Reps.none _ _))); intro v1348 w40 ho41 hb hg_ hnew_; clear hg_ hnew_; (first | rw [← Ny1347.out] at ho41 | (simp only [Int.reduceToNat] at ho41; rw [← Ny1347.out] at ho41)); have n0_ := Aside0.mk (Kd.R_elder' (by apply_rules [HO_12.out, Kd.R_alloc, Kd.R_drewN, Kd.R_drew]) (Kd.R_base ho41) hb); have n1_ := Aside0.mk (Kd.R_lower (Kd.R_new' ho41 (Kd.R_lt (by apply_rules [HO_12.out, Kd.R_alloc, Kd.R_drewN, Kd.R_drew]))) (below_size (by apply_rules [HB.out, below_alloc, pw_below_drewN, below_drew1, below_set, GE1340.out]))); have n2_ := Aside0.mk (blk_below (g := gb1340) (o := .cells #[.string x1341000_31, .string x1341001_31] 38 (0, 0)) (by apply_rules [BK1340.out, blk_drewN, blk_drew, blk_alloc]) hb); have n3_ := Aside0.mk (below_step (by apply_rules [HB.out, below_alloc, pw_below_drewN, below_drew1, below_set, GE1340.out]) hb); clear HO_12; clear BK1340; clear HB; have HO_12 := n0_; have HO1349 := n1_; have BK1340 := n2_; have HB := n3_; clear n0_ n1_ n2_ n3_; clear hb ho41; have hcz42_0 : w40.cell? ⟨gb1340, 0, none⟩ = some (.string x1341000_31) := (blk_cell BK1340.out 0).trans rfl; have hcz42_1 : w40.cell? ⟨gb1340, 1, none⟩ = some (.string x1341001_31) := (blk_cell BK1340.out 1).trans rfl; have hfz42_0 := blk_frozen BK1340.out 0; have hfz42_1 := blk_frozen BK1340.out 1; obtain ⟨Ao43, co43, eo43⟩ := Kd.R_slice HO1349.out; subst eo43) | ((with_reducible refine gate_callee (f := 78) rfl ?_); refine goesK (some 54) Tryz.func78 [.slice Ao43 y1347.length co43, .agg #[.string x1341000_31, .string x1341001_31]] rfl rfl ?_; (with_reducible refine (prime_Factor.calls kj31 _ _ y1347 x1341000_31 x1341001_31 t1350 t1353 _ ?side1 ?side2 ?side3 A37.out).mono ?_); (case side1 => refine TabW.below hT ?_; apply_rules [HB.out, below_alloc, pw_below_drewN, below_drew1, below_set, GE1340.out]); (case side2 => apply_rules [(Kd.R_reads' HO1349.out).2.2, Kd.C_alloc, Kd.C_drewN, Kd.C_drew]); (case side3 => exact (Kd.R_reads' HO1349.out).2.1); rintro e w44 ⟨v1351, rfl, ho0, hb⟩; refine ⟨_, rfl, ?_⟩; have n0_ := Aside0.mk (Kd.R_elder' (by apply_rules [HO_12.out, Kd.R_alloc, Kd.R_drewN, Kd.R_drew]) (Kd.R_base ho0) hb); have n1_ := Aside0.mk (Kd.R_elder' (by apply_rules [HO1349.out, Kd.R_alloc, Kd.R_drewN, Kd.R_drew]) (Kd.R_base ho0) hb); have n2_ := Aside0.mk (Kd.R_lower (Kd.R_new' (Kd.R_new' ho0 (Kd.R_lt (by apply_rules [HO_12.out, Kd.R_alloc, Kd.R_drewN, Kd.R_drew]))) (Kd.R_lt (by apply_rules [HO1349.out, Kd.R_alloc, Kd.R_drewN, Kd.R_drew]))) (below_size (by apply_rules [HB.out, below_alloc, pw_below_drewN, below_drew1, below_set, GE1340.out]))); have n3_ := Aside0.mk (blk_below (g := gb1340) (o := .cells #[.string x1341000_31, .string x1341001_31] 38 (0, 0)) (by apply_rules [BK1340.out, blk_drewN, blk_drew, blk_alloc]) hb); have n4_ := Aside0.mk (below_step (by apply_rules [HB.out, below_alloc, pw_below_drewN, below_drew1, below_set, GE1340.out]) hb); clear HO_12; clear HO1349; clear BK1340; clear HB; have HO_12 := n0_; have HO1349 := n1_; have HO1352 := n2_; have BK1340 := n3_; have HB := n4_; clear n0_ n1_ n2_ n3_ n4_; (try clear hb); (try clear ho0); obtain ⟨Ao45, co45, eo45⟩ := Kd.R_slice HO1352.out; subst eo45))
        go_ret
        exact ⟨by first | rfl | (simp [errW_none, errW_some] <;> rfl) | (simp only [← hji8]; first | rfl | (simp [errW_none, errW_some] <;> rfl)) | (simp [*, errW_none, errW_some] <;> rfl), by apply_rules [HB.out, below_alloc, pw_below_drewN, below_drew1, below_set, GE1340.out]⟩
       ·rw [if_neg c38] at H
        have c38b0 : decide (1000 < (wrap64 (Int.tmod a1 1301))) = false := decide_eq_false c38
        clear c38
        by_cases c51 : t1353 = 0
        case neg => rw [if_neg c51] at H; have c51b0 : (t1353 == 0) = false := beq_eq_false_iff_ne.mpr c51; have c51b1 : (t1353 != 0) = true := bne_iff_ne.mpr c51; exact absurd ((Option.some.inj H).trans hr) Bool.false_ne_true
        rw [if_pos c51] at H
        have c51b0 : (t1353 == 0) = true := beq_iff_eq.mpr c51
        have c51b1 : (t1353 != 0) = false := bne_eq_false_iff_eq.mpr c51
        clear c51
        replace H := Option.bind_eq_some_iff.mp H
        obtain ⟨t1354, A520, H⟩ := H
        try dsimp only at H
        have A52 := Aside0.mk A520
        clear A520
        obtain rfl := Option.some.inj H
        go_wp2_with (first | ((with_reducible refine gate_dst (N := 52) rfl ?_); (try (refine gate_guard (by rfl) ?_; dsimp only)); refine Kd.R_lit (Kd.int .i64) _ 3 ?hg (N := 52) ?hd (xs := ([(rd t1331 (ji8))] : List Int)) (inner := [.int .i64 (rd t1331 (ji8))]) (ok := fun _ => True) (okp := fun _ => True) ?hr ?hp (fun _ hk => hk) trivial (Below.refl _ _) (Nat.le_refl _) (by simp) ?_; (case hd => rfl); (case hg => rfl); (case hr => go_simp; try rfl); (case hp => exact (Reps.one (show Kd.M (Kd.int .i64) _ _ _ (rd t1331 (ji8)) [.int .i64 (rd t1331 (ji8))] from rfl) (Reps.none _ _))); intro v1348 w53 ho54 hb hg_ hnew_; clear hg_ hnew_; (first | rw [← Ny1347.out] at ho54 | (simp only [Int.reduceToNat] at ho54; rw [← Ny1347.out] at ho54)); have n0_ := Aside0.mk (Kd.R_elder' (by apply_rules [HO_12.out, Kd.R_alloc, Kd.R_drewN, Kd.R_drew]) (Kd.R_base ho54) hb); have n1_ := Aside0.mk (Kd.R_lower (Kd.R_new' ho54 (Kd.R_lt (by apply_rules [HO_12.out, Kd.R_alloc, Kd.R_drewN, Kd.R_drew]))) (below_size (by apply_rules [HB.out, below_alloc, pw_below_drewN, below_drew1, below_set, GE1340.out]))); have n2_ := Aside0.mk (blk_below (g := gb1340) (o := .cells #[.string x1341000_31, .string x1341001_31] 38 (0, 0)) (by apply_rules [BK1340.out, blk_drewN, blk_drew, blk_alloc]) hb); have n3_ := Aside0.mk (below_step (by apply_rules [HB.out, below_alloc, pw_below_drewN, below_drew1, below_set, GE1340.out]) hb); clear HO_12; clear BK1340; clear HB; have HO_12 := n0_; have HO1349 := n1_; have BK1340 := n2_; have HB := n3_; clear n0_ n1_ n2_ n3_; clear hb ho54; have hcz55_0 : w53.cell? ⟨gb1340, 0, none⟩ = some (.string x1341000_31) := (blk_cell BK1340.out 0).trans rfl; have hcz55_1 : w53.cell? ⟨gb1340, 1, none⟩ = some (.string x1341001_31) := (blk_cell BK1340.out 1).trans rfl; have hfz55_0 := blk_frozen BK1340.out 0; have hfz55_1 := blk_frozen BK1340.out 1; obtain ⟨Ao56, co56, eo56⟩ := Kd.R_slice HO1349.out; subst eo56) | ((with_reducible refine gate_callee (f := 78) rfl ?_); refine goesK (some 54) Tryz.func78 [.slice Ao56 y1347.length co56, .agg #[.string x1341000_31, .string x1341001_31]] rfl rfl ?_; (with_reducible refine (prime_Factor.calls kj31 _ _ y1347 x1341000_31 x1341001_31 t1350 t1353 _ ?side1 ?side2 ?side3 A37.out).mono ?_); (case side1 => refine TabW.below hT ?_; apply_rules [HB.out, below_alloc, pw_below_drewN, below_drew1, below_set, GE1340.out]); (case side2 => apply_rules [(Kd.R_reads' HO1349.out).2.2, Kd.C_alloc, Kd.C_drewN, Kd.C_drew]); (case side3 => exact (Kd.R_reads' HO1349.out).2.1); rintro e w57 ⟨v1351, rfl, ho0, hb⟩; refine ⟨_, rfl, ?_⟩; have n0_ := Aside0.mk (Kd.R_elder' (by apply_rules [HO_12.out, Kd.R_alloc, Kd.R_drewN, Kd.R_drew]) (Kd.R_base ho0) hb); have n1_ := Aside0.mk (Kd.R_elder' (by apply_rules [HO1349.out, Kd.R_alloc, Kd.R_drewN, Kd.R_drew]) (Kd.R_base ho0) hb); have n2_ := Aside0.mk (Kd.R_lower (Kd.R_new' (Kd.R_new' ho0 (Kd.R_lt (by apply_rules [HO_12.out, Kd.R_alloc, Kd.R_drewN, Kd.R_drew]))) (Kd.R_lt (by apply_rules [HO1349.out, Kd.R_alloc, Kd.R_drewN, Kd.R_drew]))) (below_size (by apply_rules [HB.out, below_alloc, pw_below_drewN, below_drew1, below_set, GE1340.out]))); have n3_ := Aside0.mk (blk_below (g := gb1340) (o := .cells #[.string x1341000_31, .string x1341001_31] 38 (0, 0)) (by apply_rules [BK1340.out, blk_drewN, blk_drew, blk_alloc]) hb); have n4_ := Aside0.mk (below_step (by apply_rules [HB.out, below_alloc, pw_below_drewN, below_drew1, below_set, GE1340.out]) hb); clear HO_12; clear HO1349; clear BK1340; clear HB; have HO_12 := n0_; have HO1349 := n1_; have HO1352 := n2_; have BK1340 := n3_; have HB := n4_; clear n0_ n1_ n2_ n3_ n4_; (try clear hb); (try clear ho0); obtain ⟨Ao58, co58, eo58⟩ := Kd.R_slice HO1352.out; subst eo58; obtain ⟨Ao59, co59, eo59⟩ := Kd.R_slice HO_12.out; subst eo59) | (go_at_call 71; (with_reducible refine (api_Row_int.calls kj31 _ _ t1350 _ _ x12_31 t1354 _ ?side1 ?side2 ?side3 ?side4 A52.out).mono ?_); (case side1 => apply_rules [(Kd.R_reads' HO1352.out).2.2, Kd.C_alloc, Kd.C_drewN, Kd.C_drew]); (case side2 => exact (Kd.R_reads' HO1352.out).2.1); (case side3 => apply_rules [(Kd.R_reads' HO_12.out).2.2, Kd.C_alloc, Kd.C_drewN, Kd.C_drew]); (case side4 => exact (Kd.R_reads' HO_12.out).2.1); rintro e w' ⟨rfl, ⟨nd, rfl⟩⟩))
        go_ret
        exact ⟨by first | rfl | (simp [errW_none, errW_some] <;> rfl) | (simp only [← hji8]; first | rfl | (simp [errW_none, errW_some] <;> rfl)) | (simp [*, errW_none, errW_some] <;> rfl), by apply_rules [HB.out, below_alloc, pw_below_drewN, below_drew1, below_set, GE1340.out]⟩
 ·replace c5 := Bool.eq_false_iff.mpr c5
  subst c5
  have H1 : (some false) = some r := by rw [if_neg (show ¬ (false = true) by decide)] at H; exact H
  clear H
  have H := H1
  clear H1
  exact absurd ((Option.some.inj H).trans hr) Bool.false_ne_true
end Go.Proofs.YtccebdpjdpjgnaaGreatDoor.P
end
