/-
parts of the walks and of the plain laws: ExtUpTo Pschismalaw11isPrime Pschismalaw11check Pschismalaw11all
-/
import Derived.Shelf.SlicesE.DeleteFunc
import Derived.Lib.OwnBridge
import Derived.Test.YtccebdpjdpjgnaaGreatDoorPL25
import Derived.Test.YtccebdpjdpjgnaaGreatDoorPL31
set_option linter.unusedVariables false
set_option linter.unusedSimpArgs false
section
namespace Go.Proofs
def Tryz.lays125_ren : Go.Shelf.Ren := ⟨fun | 10 => 125 | 6 => 179 | n => n, fun | 22 => 23 | 23 => 3 | 25 => 80 | n => n, fun n => n⟩
theorem Tryz.lays125 : Go.Proofs.SlLaysH.n10 Tryz.prog Tryz.lays125_ren := {
 mixed := by kernel_rfl
 f6 := ⟨Tryz.f179.name, by decide, Tryz.func179.trans (congrArg some (by kernel_rfl))⟩
 f10 := ⟨Tryz.f125.name, by decide, Tryz.func125.trans (congrArg some (by kernel_rfl))⟩
 t0 := Tryz.underlying0
 a0 := Tryz.isAgg0
 z0 := Tryz.sizeOf0
 v0 := Tryz.zeroValue0
 t3 := Tryz.underlying3
 a3 := Tryz.isAgg3
 z3 := Tryz.sizeOf3
 v3 := Tryz.zeroValue3
 t4 := Tryz.underlying4
 a4 := Tryz.isAgg4
 z4 := Tryz.sizeOf4
 v4 := Tryz.zeroValue4
 t22 := Tryz.underlying23
 a22 := Tryz.isAgg23
 z22 := Tryz.sizeOf23
 v22 := Tryz.zeroValue23
 a23 := Tryz.isAgg3
 z23 := Tryz.sizeOf3
 t25 := Tryz.underlying80
 a25 := Tryz.isAgg80
 z25 := Tryz.sizeOf80
 v25 := Tryz.zeroValue80 }
end Go.Proofs
namespace Go.Proofs.YtccebdpjdpjgnaaGreatDoor.P
open Go.RowKit Go.Sort Go.Proofs.YtccebdpjdpjgnaaGreatDoorW.PrintWords Go.Proofs.YtccebdpjdpjgnaaGreatDoorW.PrintLast Go.Proofs.YtccebdpjdpjgnaaGreatDoorW.PrintMore
set_option linter.unusedVariables false
theorem upto_gives (lim x : Int) (B : Nat) (W : World) (hc : W.cell? ⟨B, 0, none⟩ = some (.int .i64 lim)) :
  FnGives Tryz.prog 126 #[.pointer (some ⟨B, 0, none⟩)] #[.int .i64 x] (.bool (decide (lim < x))) W := by
 show Calls Tryz.prog 126 #[.int .i64 x, .pointer (some ⟨B, 0, none⟩)] W _
 go_enter Tryz.func126, Tryz.ntmps126
 go_wp2
 all_goals (go_ret; exact ⟨by simp_all, 0, rfl⟩)
def prime_UpTo.f (k : Nat) (a0 : Int) : Option (List Int × Int) := if a0 < 2 then some ([], 3) else (prime_every.f k).bind fun l => if l.length = 0 then none else if (l.filter fun x => !decide (a0 < x)).length > 6 then some ([], 4) else some (l.filter fun x => !decide (a0 < x), 0)
set_option maxHeartbeats 1000000 in
theorem prime_UpTo.calls (k : Nat) (a0 : Int) (r1 : List Int) (r2 : Int) (w : World) (hT : TabW w) (h : prime_UpTo.f k a0 = some (r1, r2)) :
  Calls Tryz.prog 65 #[.int .i64 a0] w fun e w' => ∃ v0_ : Value, e = .returned (.tuple #[v0_, .int .i64 r2]) ∧ Kd.R (Kd.int .i64) 3 w' w.heap.size (fun _ => True) v0_ r1 ∧ Below w.heap.size w w' := by
 unfold prime_UpTo.f at h
 have hb0 : Below w.heap.size w (w.alloc (.cells #[.int .i64 a0] 3)) := below_alloc (Below.refl _ _) _
 by_cases h2 : a0 < 2
 ·rw [if_pos h2] at h
  simp only [Option.some.injEq, Prod.mk.injEq] at h
  obtain ⟨rfl, rfl⟩ := h
  go_enter Tryz.func65, Tryz.ntmps65
  go_wp2_with fail
  go_ret2
  exact ⟨_, rfl, Kd.R_nil _ _ _ _ _, by repeat (first | (with_reducible first | exact hb0 | apply below_alloc | apply pw_below_drewN | apply below_drew1) | exact hb0)⟩
 ·rw [if_neg h2] at h
  obtain ⟨l, hl, h⟩ := Option.bind_eq_some_iff.mp h
  by_cases hz : l.length = 0
  ·rw [if_pos hz] at h; cases h
  ·rw [if_neg hz] at h
   have hfl := List.length_filter_le (fun x => !decide (a0 < x)) l
   obtain ⟨K, hK⟩ : ∃ K, K = l.filter fun x => !decide (a0 < x) := ⟨_, rfl⟩
   rw [← hK] at h hfl
   go_enter Tryz.func65, Tryz.ntmps65
   go_wp2_with fail
   refine (prime_every.calls k l _ (TabW.below hT hb0) hl).mono ?_
   rintro e w1 ⟨v0, rfl, hR, hb1⟩
   have hb01 := below_then hb0 hb0.size hb1
   obtain ⟨ad, c, hv⟩ := Kd.R_slice1 hR (by omega)
   have ho := Kd.own_of_R (enc := Value.int .i64) (h1 := fun _ => rfl) hR
   obtain ⟨g, cap, rfl, hge, hg1, hcap, hmax, _, hH⟩ := Lib.holds_of_ownsRow ho (by rw [hv]; intro e; cases e)
   have hsz1 : (w.alloc (.cells #[.int .i64 a0] 3)).heap.size = w.heap.size + 1 := by simp
   have hge2 : w.heap.size < g := by omega
   have hcell : w1.cell? ⟨w.heap.size, 0, none⟩ = some (.int .i64 a0) := (hb1.cell (p := ⟨w.heap.size, 0, none⟩) (by simp)).trans (by simp)
   have hmx : l.length ≤ 9223372036854775807 := by unfold maxLen at hmax; omega
   have hcon := AnyE.slices_DeleteFunc Tryz.lays125 (Value.int .i64) (fun _ => rfl) (fun x => decide (a0 < x)) 126 #[.pointer (some ⟨w.heap.size, 0, none⟩)] (enters_ Tryz.func126 rfl rfl) 0 Tryz.zeroValue3 g 0 cap l.toArray w1
    (fun W x hb => upto_gives a0 x w.heap.size W ((hb.cell (p := ⟨w.heap.size, 0, none⟩) (by show w.heap.size < w1.heap.size; omega)).trans hcell))
    (fun n os dk x _ => upto_gives a0 x w.heap.size _ (by
     unfold sortWorld
     rw [cell?_grow _ _ _ (by show w.heap.size < (putRow _ _ _ _ _).heap.size; rw [size_putRow]; show w.heap.size < w1.heap.size; omega), cell?_putRow_other _ _ g 0 _ _ (Or.inl (by show w.heap.size ≠ g; omega))]
     exact hcell)) hH (by simpa using hmx) (by simpa using hcap)
   simp only [List.size_toArray] at hcon
   rw [← hK] at hcon
   change Calls Tryz.prog 125 _ _ _ at hcon
   have hy : (K ++ List.replicate (l.length - K.length) (0 : Int)).length = l.length := by simp; omega
   obtain ⟨ys, hys⟩ : ∃ ys, ys = K ++ List.replicate (l.length - K.length) (0 : Int) := ⟨_, rfl⟩
   have htk : ys.take K.length = K := by rw [hys]; exact List.take_left
   rw [← hys] at hy hcon
   have hown : ∀ q, (putRow (Value.int .i64) (Sort.ahead w1 q) g 0 ys.toArray).ownsRow (w.alloc (.cells #[.int .i64 a0] 3)).heap.size 3 1 (.slice (some ⟨g, 0, none⟩) K.length cap) K.length (K.map (Value.int .i64)) := fun q => by
    have := Lib.ownsRow_putRow (q := q) (k := K.length) ho hy hfl
    rw [htk] at this
    exact this
   have hbel : ∀ q, Below w.heap.size w (putRow (Value.int .i64) (Sort.ahead w1 q) g 0 ys.toArray) := fun q => Lib.below_putRow hb01 (by omega)
   clear hH hys hK hl
   go_wp2_with fail
   refine hcon.mono ?_
   rintro e w2 ⟨rfl, q, rfl⟩
   have hown2 := hown q
   have hb2 := hbel q
   generalize putRow (Value.int .i64) (Sort.ahead w1 q) g 0 ys.toArray = w2 at *
   clear hcon hown hbel
   by_cases h6 : K.length > 6
   ·rw [if_pos h6] at h
    simp only [Option.some.injEq, Prod.mk.injEq] at h
    obtain ⟨rfl, rfl⟩ := h
    have d6 : (6 : Int) < (K.length : Int) := by omega
    go_wp2_with fail
    go_ret2
    exact ⟨_, rfl, Kd.R_nil _ _ _ _ _, by repeat (first | (with_reducible first | exact hb2 | apply below_alloc | apply pw_below_drewN | apply below_drew1) | exact hb2)⟩
   ·rw [if_neg h6] at h
    simp only [Option.some.injEq, Prod.mk.injEq] at h
    obtain ⟨rfl, rfl⟩ := h
    have d6 : ¬ ((6 : Int) < (K.length : Int)) := by omega
    go_wp2_with fail
    go_ret2
    exact ⟨_, rfl, by (with_reducible repeat (first | apply Kd.R_alloc | apply Kd.R_drewN | apply Kd.R_drew)); exact Kd.R_lower (Kd.R_of_own (enc := Value.int .i64) (h1 := fun _ => rfl) hown2 (fun _ _ => trivial)) (by simp), by repeat (first | (with_reducible first | exact hb2 | apply below_alloc | apply pw_below_drewN | apply below_drew1) | exact hb2)⟩
end Go.Proofs.YtccebdpjdpjgnaaGreatDoor.P
end
section
namespace Go.Proofs.YtccebdpjdpjgnaaGreatDoor.P
open Go.RowKit Go.Proofs.YtccebdpjdpjgnaaGreatDoorW.PrintWords Go.Proofs.YtccebdpjdpjgnaaGreatDoorW.PrintLast Go.Proofs.YtccebdpjdpjgnaaGreatDoorW.PrintMore
attribute [local go_sem] max2_int min2_int max_two min_two max_three min_three max_four min_four
mutual
def schismalaw11_isPrime.j0 : Nat → Int → Bool → Option (Bool)
 | 0, _, _ => none
 | k + 1, x0, x9 => if x9 = true then (some false) else (schismalaw11_isPrime.l0 k x0 2)
def schismalaw11_isPrime.l0 : Nat → Int → Int → Option (Bool)
 | 0, _, _ => none
 | k + 1, x0, x3 => if x3 < x0 then (if x3 = 0 then (none) else (if (Int.tmod x0 x3) = 0 then (some false) else (schismalaw11_isPrime.l0 k x0 (wrap64 (x3 + 1))))) else (some true)
end
def schismalaw11_isPrime.f (k : Nat) (a0 : Int) : Option (Bool) := if a0 < 2 then (schismalaw11_isPrime.j0 k a0 true) else (schismalaw11_isPrime.j0 k a0 (decide (a0 > 97)))
theorem schismalaw11_isPrime.mono_l : ∀ k, (∀ y0 y1, LeO (schismalaw11_isPrime.j0 k y0 y1) (schismalaw11_isPrime.j0 (k + 1) y0 y1)) ∧ (∀ y0 y1, LeO (schismalaw11_isPrime.l0 k y0 y1) (schismalaw11_isPrime.l0 (k + 1) y0 y1))
 | 0 => ⟨fun _ _ r h => by simp [schismalaw11_isPrime.j0] at h, fun _ _ r h => by simp [schismalaw11_isPrime.l0] at h⟩
 | k + 1 => by
  obtain ⟨ih0, ih1⟩ := schismalaw11_isPrime.mono_l k
  refine ⟨?_, ?_⟩
  ·intro y0 y1
   unfold schismalaw11_isPrime.j0
   repeat' first
   | (with_reducible exact ih0 _ _)
   | (with_reducible exact ih1 _ _)
   | (with_reducible exact LeO.refl _)
   | (with_reducible exact LeO.none _)
   | (with_reducible refine LeO.ite ?_ ?_)
   | (with_reducible refine LeO.bind ?_ (fun _ => ?_))
   | exact ih0 _ _
   | exact ih1 _ _
   | exact LeO.none _
   | refine LeO.ite ?_ ?_
   | refine LeO.bind ?_ (fun _ => ?_)
  ·intro y0 y1
   unfold schismalaw11_isPrime.l0
   repeat' first
   | (with_reducible exact ih0 _ _)
   | (with_reducible exact ih1 _ _)
   | (with_reducible exact LeO.refl _)
   | (with_reducible exact LeO.none _)
   | (with_reducible refine LeO.ite ?_ ?_)
   | (with_reducible refine LeO.bind ?_ (fun _ => ?_))
   | exact ih0 _ _
   | exact ih1 _ _
   | exact LeO.none _
   | refine LeO.ite ?_ ?_
   | refine LeO.bind ?_ (fun _ => ?_)
theorem schismalaw11_isPrime.mono : ∀ a0 k, LeO (schismalaw11_isPrime.f k a0) (schismalaw11_isPrime.f (k + 1) a0) := by
 intro a0 k
 obtain ⟨ih0, ih1⟩ := schismalaw11_isPrime.mono_l k
 unfold schismalaw11_isPrime.f
 repeat' first
   | (with_reducible exact ih0 _ _)
   | (with_reducible exact ih1 _ _)
   | (with_reducible exact LeO.refl _)
   | (with_reducible exact LeO.none _)
   | (with_reducible refine LeO.ite ?_ ?_)
   | (with_reducible refine LeO.bind ?_ (fun _ => ?_))
   | exact ih0 _ _
   | exact ih1 _ _
   | exact LeO.none _
   | refine LeO.ite ?_ ?_
   | refine LeO.bind ?_ (fun _ => ?_)
set_option maxHeartbeats 8000000 in
set_option maxRecDepth 100000 in
theorem schismalaw11_isPrime.calls (k : Nat) (a0 : Int) (r : Bool) (w : World) (h : schismalaw11_isPrime.f k a0 = some r) :
  Calls Tryz.prog 60 #[.int .i64 a0] w fun e w' => e = .returned (.bool r) ∧ Drawn0 w w' := by
 have H : (if a0 < 2 then (schismalaw11_isPrime.j0 k a0 true) else (schismalaw11_isPrime.j0 k a0 (decide (a0 > 97)))) = some r := h
 clear h
 have HC2 := Aside0.mk H
 clear H
 go_enter Tryz.func60, Tryz.ntmps60
 go_upto_region 1 with (fail)
 go_cut [9] (fun v9 wc => ∃ (kq : Nat) (x9_1 : Bool), v9 = .bool x9_1 ∧ Aside0 (schismalaw11_isPrime.j0 kq a0 x9_1 = some r) ∧ Aside0 (kq ≤ k) ∧ Drawn0 w wc)
 case first =>
  have H := HC2.out
  clear HC2
  by_cases c3 : a0 < 2
  ·rw [if_pos c3] at H
   have c3b0 : decide (a0 < 2) = true := decide_eq_true c3
   clear c3
   (first | rw [c3b0] | (simp only [i64_w, i32_w]; rw [c3b0]) | skip)
   have H' := Aside0.mk H
   clear H
   go_wp2
   go_meet
   case rel => exact ⟨_, (true), (by first | rfl | (simp; done) | (simp [*]; done)), H', ⟨by first | omega | exact Nat.le_refl _⟩, by repeat (first | exact Drawn0.refl _ | apply Drawn0.step)⟩
  ·rw [if_neg c3] at H
   have c3b0 : decide (a0 < 2) = false := decide_eq_false c3
   clear c3
   (first | rw [c3b0] | (simp only [i64_w, i32_w]; rw [c3b0]) | skip)
   have H' := Aside0.mk H
   clear H
   go_wp2
   go_meet
   case rel => exact ⟨_, (decide (a0 > 97)), (by first | rfl | (simp; done) | (simp [*]; done)), H', ⟨by first | omega | exact Nat.le_refl _⟩, by repeat (first | exact Drawn0.refl _ | apply Drawn0.step)⟩
 case rest =>
  clear HC2
  try clear p2
  try clear c3
  try clear c3b0
  obtain ⟨kq, x9_1, rfl, HA, HJ1, ⟨mc1, rfl⟩⟩ := hcut
  cases kq with
  | zero => exact absurd HA.out (by simp [schismalaw11_isPrime.j0])
  | succ kj1 =>
   have H := HA.out
   clear HA
   simp only [schismalaw11_isPrime.j0] at H
   by_cases c4 : x9_1 = true
   ·subst c4
    have H1 : (some false) = some r := by rw [if_pos rfl] at H; exact H
    clear H
    have H := H1
    clear H1
    obtain rfl := Option.some.inj H
    go_wp2
    go_ret
    exact ⟨by first | rfl | (simp; done) | (simp [*]; done), by repeat (first | exact Drawn0.refl _ | apply Drawn0.step)⟩
   ·replace c4 := Bool.eq_false_iff.mpr c4
    subst c4
    have H1 : (schismalaw11_isPrime.l0 kj1 a0 2) = some r := by rw [if_neg (show ¬ (false = true) by decide)] at H; exact H
    clear H
    have H := H1
    clear H1
    have H' := Aside0.mk H
    clear H
    go_wp2
    go_loopg [3] kj1 (fun kq v3 w' => ∃ (x3_2 : Int), v3 = .int .i64 x3_2 ∧ Aside0 (schismalaw11_isPrime.l0 kq a0 x3_2 = some r) ∧ Aside0 (kq ≤ kj1) ∧ Drawn0 w w')
    case atStart => exact ⟨(2), (by first | rfl | (simp; done) | (simp [*]; done)), H', ⟨Nat.le_refl _⟩, by repeat (first | exact Drawn0.refl _ | apply Drawn0.step)⟩
    case round =>
     clear H'
     try clear c1
     try clear p2
     try clear c3
     try clear c3b0
     try clear c4
     try clear p2
     obtain ⟨x3_2, rfl, HA, HK2, ⟨m2, rfl⟩⟩ := hrel
     cases gk with
     | zero => exact absurd HA.out (by simp [schismalaw11_isPrime.l0])
     | succ k2 =>
      have H := HA.out
      clear HA
      simp only [schismalaw11_isPrime.l0] at H
      by_cases c5 : x3_2 < a0
      ·rw [if_pos c5] at H
       have c5b0 : decide (x3_2 < a0) = true := decide_eq_true c5
       clear c5
       by_cases c6 : x3_2 = 0
       ·rw [if_pos c6] at H
        exact absurd H (by simp)
       ·rw [if_neg c6] at H
        have c6b0 : (x3_2 == 0) = false := beq_eq_false_iff_ne.mpr c6
        have c6b1 : (x3_2 != 0) = true := bne_iff_ne.mpr c6
        by_cases c7 : (Int.tmod a0 x3_2) = 0
        ·rw [if_pos c7] at H
         have c7b0 : ((Int.tmod a0 x3_2) == 0) = true := beq_iff_eq.mpr c7
         have c7b1 : ((Int.tmod a0 x3_2) != 0) = false := bne_eq_false_iff_eq.mpr c7
         clear c7
         obtain rfl := Option.some.inj H
         go_wp2
         go_ret
         exact ⟨by first | rfl | (simp; done) | (simp [*]; done), by repeat (first | exact Drawn0.refl _ | apply Drawn0.step)⟩
        ·rw [if_neg c7] at H
         have c7b0 : ((Int.tmod a0 x3_2) == 0) = false := beq_eq_false_iff_ne.mpr c7
         have c7b1 : ((Int.tmod a0 x3_2) != 0) = true := bne_iff_ne.mpr c7
         have H' := Aside0.mk H
         clear H
         go_wp2
         go_roundg k2
         case measure => have := HJ1.out; have := HK2.out; omega
         case rel => exact ⟨(wrap64 (x3_2 + 1)), (by first | rfl | (simp; done) | (simp [*]; done)), H', ⟨by have := HJ1.out; have := HK2.out; omega⟩, by repeat (first | exact Drawn0.refl _ | apply Drawn0.step)⟩
      ·rw [if_neg c5] at H
       have c5b0 : decide (x3_2 < a0) = false := decide_eq_false c5
       clear c5
       obtain rfl := Option.some.inj H
       go_wp2
       go_ret
       exact ⟨by first | rfl | (simp; done) | (simp [*]; done), by repeat (first | exact Drawn0.refl _ | apply Drawn0.step)⟩
end Go.Proofs.YtccebdpjdpjgnaaGreatDoor.P
end
section
namespace Go.Proofs.YtccebdpjdpjgnaaGreatDoor.P
open Go.RowKit Go.Proofs.YtccebdpjdpjgnaaGreatDoorW.PrintWords Go.Proofs.YtccebdpjdpjgnaaGreatDoorW.PrintLast Go.Proofs.YtccebdpjdpjgnaaGreatDoorW.PrintMore
attribute [local go_sem] max2_int min2_int max_two min_two max_three min_three max_four min_four
def schismalaw11_check.l0 : Nat → List Int → List Int → Int → Int → Option (Int)
 | 0, _, _, _, _ => none
 | k + 1, x0, x11, x12, x13 => if x13 < x12 then (if 0 ≤ x13 then (if x13 < (x11.length : Int) then ((schismalaw11_isPrime.f k (rd x11 x13)).bind fun t1102 => (if t1102 = true then (if x13 > 0 then (if 0 ≤ (wrap64 (x13 - 1)) then (if (wrap64 (x13 - 1)) < (x0.length : Int) then (if (rd x11 x13) ≤ (rd x0 (wrap64 (x13 - 1))) then (some 6) else (schismalaw11_check.l0 k x0 x11 x12 (wrap64 (x13 + 1)))) else (none)) else (none)) else (schismalaw11_check.l0 k x0 x11 x12 (wrap64 (x13 + 1)))) else (some 25))) else (none)) else (none)) else (some 0)
def schismalaw11_check.f (k : Nat) (l0 : List Int) : Option (Int) := if (l0.length : Int) = 0 then (some 13) else (if (l0.length : Int) > 6 then (some 4) else (schismalaw11_check.l0 k l0 l0 (l0.length : Int) 0))
set_option maxHeartbeats 8000000 in
set_option maxRecDepth 100000 in
theorem schismalaw11_check.calls (k : Nat) (A0 : Option Addr) (c0 : Nat) (l0 : List Int) (r : Int) (w : World) (hr0 : Kd.C (Kd.int .i64) w A0 l0.length l0) (hc0 : l0.length ≤ c0) (h : schismalaw11_check.f k l0 = some r) :
  Calls Tryz.prog 61 #[.slice A0 l0.length c0] w fun e w' => e = .returned (.int .i64 r) ∧ Drawn0 w w' := by
 have HR0 := Aside0.mk hr0
 have HC0 := Aside0.mk hc0
 clear hr0 hc0
 have H : (if (l0.length : Int) = 0 then (some 13) else (if (l0.length : Int) > 6 then (some 4) else (schismalaw11_check.l0 k l0 l0 (l0.length : Int) 0))) = some r := h
 clear h
 by_cases c2 : (l0.length : Int) = 0
 ·rw [if_pos c2] at H
  have c2b0 : ((l0.length : Int) == 0) = true := beq_iff_eq.mpr c2
  have c2b1 : ((l0.length : Int) != 0) = false := bne_eq_false_iff_eq.mpr c2
  clear c2
  obtain rfl := Option.some.inj H
  go_enter Tryz.func61, Tryz.ntmps61
  go_wp2
  go_ret
  exact ⟨by first | rfl | (simp; done) | (simp [*]; done), by repeat (first | exact Drawn0.refl _ | apply Drawn0.step)⟩
 ·rw [if_neg c2] at H
  have c2b0 : ((l0.length : Int) == 0) = false := beq_eq_false_iff_ne.mpr c2
  have c2b1 : ((l0.length : Int) != 0) = true := bne_iff_ne.mpr c2
  have c2b2 : ¬ (l0 = []) := fun h_ => c2 (by rw [h_]; rfl)
  by_cases c3 : (l0.length : Int) > 6
  ·rw [if_pos c3] at H
   have c3b0 : decide (6 < (l0.length : Int)) = true := decide_eq_true c3
   have c3b1 : decide (6 < l0.length) = true := decide_eq_true (by omega)
   clear c3
   obtain rfl := Option.some.inj H
   go_enter Tryz.func61, Tryz.ntmps61
   go_wp2
   go_ret
   exact ⟨by first | rfl | (simp; done) | (simp [*]; done), by repeat (first | exact Drawn0.refl _ | apply Drawn0.step)⟩
  ·rw [if_neg c3] at H
   have c3b0 : decide (6 < (l0.length : Int)) = false := decide_eq_false c3
   have c3b1 : decide (6 < l0.length) = false := decide_eq_false (by omega)
   clear c3
   have H' := Aside0.mk H
   clear H
   go_enter Tryz.func61, Tryz.ntmps61
   go_wp2
   go_loopg [13] k (fun kq v13 w' => ∃ (x13_1 : Int), v13 = .int .i64 x13_1 ∧ Aside0 (schismalaw11_check.l0 kq l0 l0 (l0.length : Int) x13_1 = some r) ∧ Aside0 (kq ≤ k) ∧ Drawn0 w w')
   case atStart => exact ⟨(0), (by first | rfl | (simp; done) | (simp [*]; done)), H', ⟨Nat.le_refl _⟩, by repeat (first | exact Drawn0.refl _ | apply Drawn0.step)⟩
   case round =>
    clear H'
    try clear c2
    try clear c2b0
    try clear c2b1
    try clear c2b2
    try clear p2
    try clear c3
    try clear c3b0
    try clear c3b1
    obtain ⟨x13_1, rfl, HA, HK1, ⟨m1, rfl⟩⟩ := hrel
    cases gk with
    | zero => exact absurd HA.out (by simp [schismalaw11_check.l0])
    | succ k1 =>
     have H := HA.out
     clear HA
     simp only [schismalaw11_check.l0] at H
     by_cases c4 : x13_1 < (l0.length : Int)
     ·rw [if_pos c4] at H
      have c4b0 : decide (x13_1 < (l0.length : Int)) = true := decide_eq_true c4
      clear c4
      by_cases c5 : 0 ≤ x13_1
      ·rw [if_pos c5] at H
       have c5b0 : decide (0 ≤ x13_1) = true := decide_eq_true c5
       clear c5
       by_cases c6 : x13_1 < (l0.length : Int)
       ·rw [if_pos c6] at H
        have c6b0 : decide (x13_1 < (l0.length : Int)) = true := decide_eq_true c6
        clear c6
        replace H := Option.bind_eq_some_iff.mp H
        obtain ⟨t1102, A70, H⟩ := H
        replace H : (if t1102 = true then (if x13_1 > 0 then (if 0 ≤ (wrap64 (x13_1 - 1)) then (if (wrap64 (x13_1 - 1)) < (l0.length : Int) then (if (rd l0 x13_1) ≤ (rd l0 (wrap64 (x13_1 - 1))) then (some 6) else (schismalaw11_check.l0 k1 l0 l0 (l0.length : Int) (wrap64 (x13_1 + 1)))) else (none)) else (none)) else (schismalaw11_check.l0 k1 l0 l0 (l0.length : Int) (wrap64 (x13_1 + 1)))) else (some 25)) = some r := H
        have A7 := Aside0.mk A70
        clear A70
        by_cases c8 : t1102 = true
        ·subst c8
         have H1 : (if x13_1 > 0 then (if 0 ≤ (wrap64 (x13_1 - 1)) then (if (wrap64 (x13_1 - 1)) < (l0.length : Int) then (if (rd l0 x13_1) ≤ (rd l0 (wrap64 (x13_1 - 1))) then (some 6) else (schismalaw11_check.l0 k1 l0 l0 (l0.length : Int) (wrap64 (x13_1 + 1)))) else (none)) else (none)) else (schismalaw11_check.l0 k1 l0 l0 (l0.length : Int) (wrap64 (x13_1 + 1)))) = some r := by rw [if_pos rfl] at H; exact H
         clear H
         have H := H1
         clear H1
         by_cases c9 : x13_1 > 0
         ·rw [if_pos c9] at H
          have c9b0 : decide (0 < x13_1) = true := decide_eq_true c9
          clear c9
          obtain ⟨ji10, hji10⟩ : ∃ j_ : Int, (wrap64 (x13_1 - 1)) = j_ := ⟨_, rfl⟩
          replace H : (if 0 ≤ (ji10) then (if (ji10) < (l0.length : Int) then (if (rd l0 x13_1) ≤ (rd l0 (ji10)) then (some 6) else (schismalaw11_check.l0 k1 l0 l0 (l0.length : Int) (wrap64 (x13_1 + 1)))) else (none)) else (none)) = some r := by first | (rw [hji10] at H; exact H) | (simp only [hji10] at H ⊢; exact H)
          (try rw [hji10] at A7)
          have hji10w : (IntKind.i64.wrap (x13_1 - 1)) = ji10 := (i64_w _).trans hji10
          by_cases c11 : 0 ≤ (ji10)
          ·rw [if_pos c11] at H
           have c11b0 : decide (0 ≤ (ji10)) = true := decide_eq_true c11
           clear c11
           by_cases c12 : (ji10) < (l0.length : Int)
           ·rw [if_pos c12] at H
            have c12b0 : decide ((ji10) < (l0.length : Int)) = true := decide_eq_true c12
            clear c12
            by_cases c13 : (rd l0 x13_1) ≤ (rd l0 (ji10))
            ·rw [if_pos c13] at H
             have c13b0 : decide ((rd l0 x13_1) ≤ (rd l0 (ji10))) = true := decide_eq_true c13
             clear c13
             obtain rfl := Option.some.inj H
             have p1101 : 0 ≤ (x13_1 : Int) := of_decide_eq_true (by first | (with_reducible assumption) | assumption)
             have q1101 : x13_1 < (l0.length : Int) := of_decide_eq_true (by first | (with_reducible assumption) | assumption)
             obtain ⟨ad1101, e1101, hx1101_0⟩ := Kd.at_int HR0.out x13_1 p1101 q1101
             cases e1101
             replace p1101 := eq_true p1101
             replace q1101 := eq_true q1101
             go_wp2_with (first | ((with_reducible refine gate_callee (f := 60) rfl ?_); refine goesL_ (some 19) rfl rfl Tryz.func60 (by kernel_rfl) rfl #[.int .i64 (rd l0 x13_1)] rfl (by (try simp only [List.map_toArray, List.map_cons, List.map_nil]); first | done | rfl | (simp only [List.length_drop, List.length_take]; rfl)) ?_; (with_reducible refine (schismalaw11_isPrime.calls k1 (rd l0 x13_1) true _ A7.out).mono ?_); rintro e w' ⟨rfl, ⟨nd, rfl⟩⟩; refine ⟨_, rfl, ?_⟩; have p1103 : 0 ≤ ((ji10) : Int) := of_decide_eq_true (by first | (with_reducible assumption) | assumption); have q1103 : (ji10) < (l0.length : Int) := of_decide_eq_true (by first | (with_reducible assumption) | assumption); obtain ⟨ad1103, e1103, hx1103_0⟩ := Kd.at_int HR0.out (ji10) p1103 q1103; obtain rfl : ad1101 = ad1103 := (by injection e1103); replace p1103 := eq_true p1103; replace q1103 := eq_true q1103))
             go_ret
             exact ⟨by first | rfl | (simp; done) | (simp only [← hji10] <;> (first | rfl | simp)) | (simp [*]; done), by repeat (first | exact Drawn0.refl _ | apply Drawn0.step)⟩
            ·rw [if_neg c13] at H
             have c13b0 : decide ((rd l0 x13_1) ≤ (rd l0 (ji10))) = false := decide_eq_false c13
             clear c13
             have H' := Aside0.mk H
             clear H
             have p1101 : 0 ≤ (x13_1 : Int) := of_decide_eq_true (by first | (with_reducible assumption) | assumption)
             have q1101 : x13_1 < (l0.length : Int) := of_decide_eq_true (by first | (with_reducible assumption) | assumption)
             obtain ⟨ad1101, e1101, hx1101_0⟩ := Kd.at_int HR0.out x13_1 p1101 q1101
             cases e1101
             replace p1101 := eq_true p1101
             replace q1101 := eq_true q1101
             go_wp2_with (first | ((with_reducible refine gate_callee (f := 60) rfl ?_); refine goesL_ (some 19) rfl rfl Tryz.func60 (by kernel_rfl) rfl #[.int .i64 (rd l0 x13_1)] rfl (by (try simp only [List.map_toArray, List.map_cons, List.map_nil]); first | done | rfl | (simp only [List.length_drop, List.length_take]; rfl)) ?_; (with_reducible refine (schismalaw11_isPrime.calls k1 (rd l0 x13_1) true _ A7.out).mono ?_); rintro e w' ⟨rfl, ⟨nd, rfl⟩⟩; refine ⟨_, rfl, ?_⟩; have p1103 : 0 ≤ ((ji10) : Int) := of_decide_eq_true (by first | (with_reducible assumption) | assumption); have q1103 : (ji10) < (l0.length : Int) := of_decide_eq_true (by first | (with_reducible assumption) | assumption); obtain ⟨ad1103, e1103, hx1103_0⟩ := Kd.at_int HR0.out (ji10) p1103 q1103; obtain rfl : ad1101 = ad1103 := (by injection e1103); replace p1103 := eq_true p1103; replace q1103 := eq_true q1103))
             go_roundg k1
             case measure => have := HK1.out; omega
             case rel => exact ⟨(wrap64 (x13_1 + 1)), (by first | rfl | (simp; done) | (simp [*]; done)), H', ⟨by have := HK1.out; omega⟩, by repeat (first | exact Drawn0.refl _ | apply Drawn0.step)⟩
           ·rw [if_neg c12] at H
            exact absurd H (by simp)
          ·rw [if_neg c11] at H
           exact absurd H (by simp)
         ·rw [if_neg c9] at H
          have c9b0 : decide (0 < x13_1) = false := decide_eq_false c9
          clear c9
          have H' := Aside0.mk H
          clear H
          have p1101 : 0 ≤ (x13_1 : Int) := of_decide_eq_true (by first | (with_reducible assumption) | assumption)
          have q1101 : x13_1 < (l0.length : Int) := of_decide_eq_true (by first | (with_reducible assumption) | assumption)
          obtain ⟨ad1101, e1101, hx1101_0⟩ := Kd.at_int HR0.out x13_1 p1101 q1101
          cases e1101
          replace p1101 := eq_true p1101
          replace q1101 := eq_true q1101
          go_wp2_with (first | ((with_reducible refine gate_callee (f := 60) rfl ?_); refine goesL_ (some 19) rfl rfl Tryz.func60 (by kernel_rfl) rfl #[.int .i64 (rd l0 x13_1)] rfl (by (try simp only [List.map_toArray, List.map_cons, List.map_nil]); first | done | rfl | (simp only [List.length_drop, List.length_take]; rfl)) ?_; (with_reducible refine (schismalaw11_isPrime.calls k1 (rd l0 x13_1) true _ A7.out).mono ?_); rintro e w' ⟨rfl, ⟨nd, rfl⟩⟩; refine ⟨_, rfl, ?_⟩))
          go_roundg k1
          case measure => have := HK1.out; omega
          case rel => exact ⟨(wrap64 (x13_1 + 1)), (by first | rfl | (simp; done) | (simp [*]; done)), H', ⟨by have := HK1.out; omega⟩, by repeat (first | exact Drawn0.refl _ | apply Drawn0.step)⟩
        ·replace c8 := Bool.eq_false_iff.mpr c8
         subst c8
         have H1 : (some 25) = some r := by rw [if_neg (show ¬ (false = true) by decide)] at H; exact H
         clear H
         have H := H1
         clear H1
         obtain rfl := Option.some.inj H
         have p1101 : 0 ≤ (x13_1 : Int) := of_decide_eq_true (by first | (with_reducible assumption) | assumption)
         have q1101 : x13_1 < (l0.length : Int) := of_decide_eq_true (by first | (with_reducible assumption) | assumption)
         obtain ⟨ad1101, e1101, hx1101_0⟩ := Kd.at_int HR0.out x13_1 p1101 q1101
         cases e1101
         replace p1101 := eq_true p1101
         replace q1101 := eq_true q1101
         go_wp2_with (first | ((with_reducible refine gate_callee (f := 60) rfl ?_); refine goesL_ (some 19) rfl rfl Tryz.func60 (by kernel_rfl) rfl #[.int .i64 (rd l0 x13_1)] rfl (by (try simp only [List.map_toArray, List.map_cons, List.map_nil]); first | done | rfl | (simp only [List.length_drop, List.length_take]; rfl)) ?_; (with_reducible refine (schismalaw11_isPrime.calls k1 (rd l0 x13_1) false _ A7.out).mono ?_); rintro e w' ⟨rfl, ⟨nd, rfl⟩⟩; refine ⟨_, rfl, ?_⟩))
         go_ret
         exact ⟨by first | rfl | (simp; done) | (simp [*]; done), by repeat (first | exact Drawn0.refl _ | apply Drawn0.step)⟩
       ·rw [if_neg c6] at H
        exact absurd H (by simp)
      ·rw [if_neg c5] at H
       exact absurd H (by simp)
     ·rw [if_neg c4] at H
      have c4b0 : decide (x13_1 < (l0.length : Int)) = false := decide_eq_false c4
      clear c4
      obtain rfl := Option.some.inj H
      go_wp2
      go_ret
      exact ⟨by first | rfl | (simp; done) | (simp [*]; done), by repeat (first | exact Drawn0.refl _ | apply Drawn0.step)⟩
def schismalaw11_all.l0 : Nat → Int → List Int → Int → Option (List Int)
 | 0, _, _, _ => none
 | k + 1, x0, x3, x4 => if x4 ≤ (mn x0 97) then ((schismalaw11_isPrime.f k x4).bind fun t1104 => (if t1104 = true then (if x3.length < 17592186044416 then (schismalaw11_all.l0 k x0 (x3 ++ [x4]) (wrap64 (x4 + 1))) else (none)) else (schismalaw11_all.l0 k x0 x3 (wrap64 (x4 + 1))))) else (some x3)
def schismalaw11_all.f (k : Nat) (a0 : Int) : Option (List Int) := schismalaw11_all.l0 k a0 ([] : List Int) 2
theorem schismalaw11_all.mono_l : ∀ k, (∀ y0 y1 y2, LeO (schismalaw11_all.l0 k y0 y1 y2) (schismalaw11_all.l0 (k + 1) y0 y1 y2))
 | 0 => fun _ _ _ r h => by simp [schismalaw11_all.l0] at h
 | k + 1 => by
  have ih0 := schismalaw11_all.mono_l k
  ·intro y0 y1 y2
   unfold schismalaw11_all.l0
   repeat' first
   | (with_reducible exact ih0 _ _ _)
   | (with_reducible exact schismalaw11_isPrime.mono _ _)
   | (with_reducible exact LeO.refl _)
   | (with_reducible exact LeO.none _)
   | (with_reducible refine LeO.ite ?_ ?_)
   | (with_reducible refine LeO.bind ?_ (fun _ => ?_))
   | exact ih0 _ _ _
   | exact schismalaw11_isPrime.mono _ _
   | exact LeO.none _
   | refine LeO.ite ?_ ?_
   | refine LeO.bind ?_ (fun _ => ?_)
theorem schismalaw11_all.mono : ∀ a0 k, LeO (schismalaw11_all.f k a0) (schismalaw11_all.f (k + 1) a0) := by
 intro a0 k
 have ih0 := schismalaw11_all.mono_l k
 unfold schismalaw11_all.f
 repeat' first
   | (with_reducible exact ih0 _ _ _)
   | (with_reducible exact schismalaw11_isPrime.mono _ _)
   | (with_reducible exact LeO.refl _)
   | (with_reducible exact LeO.none _)
   | (with_reducible refine LeO.ite ?_ ?_)
   | (with_reducible refine LeO.bind ?_ (fun _ => ?_))
   | exact ih0 _ _ _
   | exact schismalaw11_isPrime.mono _ _
   | exact LeO.none _
   | refine LeO.ite ?_ ?_
   | refine LeO.bind ?_ (fun _ => ?_)
set_option maxHeartbeats 8000000 in
set_option maxRecDepth 100000 in
theorem schismalaw11_all.calls (k : Nat) (a0 : Int) (r : List Int) (w : World) (h : schismalaw11_all.f k a0 = some r) :
  Calls Tryz.prog 64 #[.int .i64 a0] w fun e w' => ∃ v0_ : Value, e = .returned (v0_) ∧ Kd.R (Kd.int .i64) 3 w' w.heap.size (fun _ => True) v0_ r ∧ Below w.heap.size w w' := by
 have HB := Aside0.mk (Below.refl w.heap.size w)
 have H : (schismalaw11_all.l0 k a0 ([] : List Int) 2) = some r := h
 clear h
 have H' := Aside0.mk H
 clear H
 go_enter Tryz.func64, Tryz.ntmps64
 go_wp2
 go_loopg [3, 4] k (fun kq v3 v4 w' => ∃ (x3_1 : List Int) (x4_1 : Int), v4 = .int .i64 x4_1 ∧ Aside0 (schismalaw11_all.l0 kq a0 x3_1 x4_1 = some r) ∧ Aside0 (kq ≤ k) ∧ Aside0 (Kd.R (Kd.int .i64) 3 w' w.heap.size (fun _ => True) v3 x3_1) ∧ Aside0 (Below w.heap.size w w'))
 case atStart => exact ⟨(([] : List Int)), (2), (by first | rfl | (simp; done) | (simp [*]; done)), H', ⟨Nat.le_refl _⟩, ⟨by first | exact Kd.R_nil _ _ _ _ _ | exact Kd.N_nil _ _ _ _ _ | exact Kd.V_nil _ _ _ _ _ | exact Kd.Q_nil _ _ _ _ _ | exact Kd.S_nil _ _ _ _ _⟩, ⟨by repeat (first | (with_reducible first | exact HB.out | apply below_alloc | apply pw_below_drewN | apply below_drew1) | exact HB.out)⟩⟩
 case round =>
  clear H'
  obtain ⟨x3_1, x4_1, rfl, HA, HK1, HO_3, HB⟩ := hrel
  cases gk with
  | zero => exact absurd HA.out (by simp [schismalaw11_all.l0])
  | succ k1 =>
   have H := HA.out
   clear HA
   simp only [schismalaw11_all.l0] at H
   obtain ⟨ji2, hji2⟩ : ∃ j_ : Int, (mn a0 97) = j_ := ⟨_, rfl⟩
   replace H : (if x4_1 ≤ (ji2) then ((schismalaw11_isPrime.f k1 x4_1).bind fun t1104 => (if t1104 = true then (if x3_1.length < 17592186044416 then (schismalaw11_all.l0 k1 a0 (x3_1 ++ [x4_1]) (wrap64 (x4_1 + 1))) else (none)) else (schismalaw11_all.l0 k1 a0 x3_1 (wrap64 (x4_1 + 1))))) else (some x3_1)) = some r := by first | (rw [hji2] at H; exact H) | (simp only [hji2] at H ⊢; exact H)
   have hji2_ : (if 97 < a0 then 97 else a0) = ji2 := hji2
   by_cases c3 : x4_1 ≤ (ji2)
   ·rw [if_pos c3] at H
    have c3b0 : decide (x4_1 ≤ (ji2)) = true := decide_eq_true c3
    clear c3
    replace H := Option.bind_eq_some_iff.mp H
    obtain ⟨t1104, A40, H⟩ := H
    replace H : (if t1104 = true then (if x3_1.length < 17592186044416 then (schismalaw11_all.l0 k1 a0 (x3_1 ++ [x4_1]) (wrap64 (x4_1 + 1))) else (none)) else (schismalaw11_all.l0 k1 a0 x3_1 (wrap64 (x4_1 + 1)))) = some r := H
    have A4 := Aside0.mk A40
    clear A40
    by_cases c5 : t1104 = true
    ·subst c5
     have H1 : (if x3_1.length < 17592186044416 then (schismalaw11_all.l0 k1 a0 (x3_1 ++ [x4_1]) (wrap64 (x4_1 + 1))) else (none)) = some r := by rw [if_pos rfl] at H; exact H
     clear H
     have H := H1
     clear H1
     by_cases c6 : x3_1.length < 17592186044416
     ·rw [if_pos c6] at H
      have LMc6 := Aside0.mk c6
      clear c6
      obtain ⟨y1105, hy1105⟩ : ∃ y_ : List Int, y_ = (x3_1 ++ [x4_1]) := ⟨_, rfl⟩
      replace H : (schismalaw11_all.l0 k1 a0 y1105 (wrap64 (x4_1 + 1))) = some r := by first | (rw [hy1105]; with_reducible exact H) | (have H2_ := (Option.bind_some _ _).symm.trans H; rw [hy1105]; with_reducible exact H2_) | (have H2_ := (Option.bind_some _ _).symm.trans H; with_reducible exact H2_) | with_reducible exact H | (rw [hy1105]; exact H) | exact H
      have Ny1105 := Aside0.mk hy1105
      clear hy1105
      have H' := Aside0.mk H
      clear H
      go_wp2_with (first | ((with_reducible refine gate_callee (f := 60) rfl ?_); refine goesL_ (some 12) rfl rfl Tryz.func60 (by kernel_rfl) rfl #[.int .i64 x4_1] rfl (by (try simp only [List.map_toArray, List.map_cons, List.map_nil]); first | done | rfl | (simp only [List.length_drop, List.length_take]; rfl)) ?_; (with_reducible refine (schismalaw11_isPrime.calls k1 x4_1 true _ A4.out).mono ?_); rintro e w' ⟨rfl, ⟨nd, rfl⟩⟩; refine ⟨_, rfl, ?_⟩) | ((with_reducible refine gate_builtin (b := .append) (xs := #[.tmp 13, .tmp 15]) rfl ?_); at_builtin; refine Kd.R_append (Kd.int .i64) (w0 := w) w.heap.size rfl (.tmp 13) (.tmp 15) 23 3 (.int .i64 0) 8 rfl Tryz.underlying23 info3 rfl (by decide) (by omega) u3 x3_1 x4_1 [.int .i64 x4_1] (fun _ => True) (fun _ => False) rfl rfl ?aP (fun _ hk => hk.elim) ?aF ?aO ?aB ?aS ?aL ?_; (case aP => exact rfl); (case aB => exact (by repeat (first | (with_reducible first | exact HB.out | apply below_alloc | apply pw_below_drewN | apply below_drew1) | exact HB.out))); (case aF => exact (fun _ _ => trivial)); (case aO => exact (by (with_reducible repeat (first | apply Kd.R_alloc | apply Kd.R_drewN | apply Kd.R_drew)); exact HO_3.out)); (case aS => exact (below_size (by repeat (first | (with_reducible first | exact HB.out | apply below_alloc | apply pw_below_drewN | apply below_drew1) | exact HB.out)))); (case aL => have := LMc6.out; omega); intro v1106 w7 ho hb hg hat; rw [← Ny1105.out] at ho; have n0_ := Aside0.mk (hb); have n1_ := Aside0.mk (ho); clear HB; clear HO_3; have HB := n0_; have HO1107 := n1_; clear n0_ n1_; clear ho hb hg hat))
      go_roundg k1
      case measure => have := HK1.out; omega
      case rel => exact ⟨(y1105), (wrap64 (x4_1 + 1)), (by first | rfl | (simp; done) | (simp [*]; done)), H', ⟨by have := HK1.out; omega⟩, ⟨by (with_reducible repeat (first | apply Kd.R_alloc | apply Kd.R_drewN | apply Kd.R_drew)); exact HO1107.out⟩, ⟨by repeat (first | (with_reducible first | exact HB.out | apply below_alloc | apply pw_below_drewN | apply below_drew1) | exact HB.out)⟩⟩
     ·rw [if_neg c6] at H
      exact absurd H (by simp)
    ·replace c5 := Bool.eq_false_iff.mpr c5
     subst c5
     have H1 : (schismalaw11_all.l0 k1 a0 x3_1 (wrap64 (x4_1 + 1))) = some r := by rw [if_neg (show ¬ (false = true) by decide)] at H; exact H
     clear H
     have H := H1
     clear H1
     have H' := Aside0.mk H
     clear H
     go_wp2_with (first | ((with_reducible refine gate_callee (f := 60) rfl ?_); refine goesL_ (some 12) rfl rfl Tryz.func60 (by kernel_rfl) rfl #[.int .i64 x4_1] rfl (by (try simp only [List.map_toArray, List.map_cons, List.map_nil]); first | done | rfl | (simp only [List.length_drop, List.length_take]; rfl)) ?_; (with_reducible refine (schismalaw11_isPrime.calls k1 x4_1 false _ A4.out).mono ?_); rintro e w' ⟨rfl, ⟨nd, rfl⟩⟩; refine ⟨_, rfl, ?_⟩))
     go_roundg k1
     case measure => have := HK1.out; omega
     case rel => exact ⟨(x3_1), (wrap64 (x4_1 + 1)), (by first | rfl | (simp; done) | (simp [*]; done)), H', ⟨by have := HK1.out; omega⟩, ⟨by (with_reducible repeat (first | apply Kd.R_alloc | apply Kd.R_drewN | apply Kd.R_drew)); exact HO_3.out⟩, ⟨by repeat (first | (with_reducible first | exact HB.out | apply below_alloc | apply pw_below_drewN | apply below_drew1) | exact HB.out)⟩⟩
   ·rw [if_neg c3] at H
    have c3b0 : decide (x4_1 ≤ (ji2)) = false := decide_eq_false c3
    clear c3
    obtain rfl := Option.some.inj H
    go_wp2
    go_ret
    exact ⟨_, by first | rfl | (simp [errW_none, errW_some] <;> rfl) | (simp only [← hji2]; first | rfl | (simp [errW_none, errW_some] <;> rfl)) | (simp [*, errW_none, errW_some] <;> rfl), by (with_reducible repeat (first | apply Kd.R_alloc | apply Kd.R_drewN | apply Kd.R_drew)); exact HO_3.out, by repeat (first | (with_reducible first | exact HB.out | apply below_alloc | apply pw_below_drewN | apply below_drew1) | exact HB.out)⟩
end Go.Proofs.YtccebdpjdpjgnaaGreatDoor.P
end
