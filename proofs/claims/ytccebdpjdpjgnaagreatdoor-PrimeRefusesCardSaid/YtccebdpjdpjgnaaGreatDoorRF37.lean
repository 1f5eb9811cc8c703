/-
words of the walks
-/
import Derived.Test.YtccebdpjdpjgnaaGreatDoorRF36
import Derived.Test.YtccebdpjdpjgnaaGreatDoorRF34
set_option linter.unusedVariables false
set_option linter.unusedSimpArgs false
namespace Go.Proofs.YtccebdpjdpjgnaaGreatDoor.P
open Go.RowKit Go.Proofs.YtccebdpjdpjgnaaGreatDoorW.PrintWords Go.Proofs.YtccebdpjdpjgnaaGreatDoorW.PrintLast Go.Proofs.YtccebdpjdpjgnaaGreatDoorW.PrintMore
attribute [local go_sem] max2_int min2_int max_two min_two max_three min_three max_four min_four
set_option linter.unusedVariables false
set_option linter.unusedSimpArgs false
attribute [local go_sem high] eqA38
mutual
def schismalaw11_PrimeRefuses.j0 : Nat → List Int → List Int → Bool → Option (Bool)
  | 0, _, _, _ => none
  | k + 1, x0, x1, x34 => if x34 = true then ((schismalaw11_known.f k).bind fun t1693 => (some t1693)) else ((schismalaw11_check.f k x0).bind fun t1694 => (if t1694 = 0 then (schismalaw11_PrimeRefuses.j1 k x0 x1) else ((cprime_Factor.f k x0 (⟨#[49]⟩ : ByteArray) (⟨#[49]⟩ : ByteArray)).bind fun bt1695 => ((cprime_Value.f k x0 ([] : List Int)).bind fun bt1699 => ((cprime_Smooth.f k x0 (⟨#[49]⟩ : ByteArray) (⟨#[49]⟩ : ByteArray)).bind fun bt1703 => ((cprime_Text.f k x0).bind fun bt1705 => (if bt1695.2 = t1694 then (if bt1699.2.2 = t1694 then (if bt1703.2 = t1694 then (if bt1705.2 = t1694 then (if bt1703.1 = true then (some false) else (if (bt1695.1.length : Int) > 0 then (some false) else (if (!(bt1699.1.toList == ([] : List UInt8)) || (!(bt1699.2.1.toList == ([] : List UInt8)))) = true then (some false) else (if bt1705.1.toList = ([] : List UInt8) then (schismalaw11_PrimeRefuses.j1 k x0 x1) else (some false))))) else (some false)) else (some false)) else (some false)) else (some false))))))))
def schismalaw11_PrimeRefuses.j1 : Nat → List Int → List Int → Option (Bool)
  | 0, _, _ => none
  | k + 1, x0, x1 => (schismalaw11_check.f k x0).bind fun t1707 => (if t1707 = 0 then ((schismalaw11_check.f k x1).bind fun t1708 => (schismalaw11_PrimeRefuses.j2 k x0 x1 t1708)) else (schismalaw11_PrimeRefuses.j2 k x0 x1 t1707))
def schismalaw11_PrimeRefuses.j2 : Nat → List Int → List Int → Int → Option (Bool)
  | 0, _, _, _ => none
  | k + 1, x0, x1, x14 => if x14 = 0 then (some true) else ((cprime_Within.f k x0 x1).bind fun bt1709 => ((cprime_Join.f k x0 x1).bind fun bt1711 => ((cprime_Embed.f k x0 x1 ([] : List Int)).bind fun bt1715 => ((cprime_Restrict.f k x0 x1 ([] : List Int)).bind fun bt1719 => (if bt1709.2 = x14 then (if bt1711.2 = x14 then (if bt1715.2 = x14 then (if bt1719.2 = x14 then (if bt1709.1 = true then (some false) else (some ((wrap64 ((wrap64 ((bt1711.1.length : Int) + (bt1715.1.length : Int))) + (bt1719.1.length : Int))) == 0))) else (some false)) else (some false)) else (some false)) else (some false))))))
end
def schismalaw11_PrimeRefuses.f (k : Nat) (l0 : List Int) (l1 : List Int) : Option (Bool) := (schismalaw11_known.f k).bind fun t1692 => (if t1692 = true then (if (l0.length : Int) > 9 then (schismalaw11_PrimeRefuses.j0 k l0 l1 true) else (schismalaw11_PrimeRefuses.j0 k l0 l1 (decide ((l1.length : Int) > 9)))) else (schismalaw11_PrimeRefuses.j0 k l0 l1 true))
set_option maxHeartbeats 8000000 in
set_option maxRecDepth 100000 in
theorem schismalaw11_PrimeRefuses.calls (k : Nat) (A0 : Option Addr) (c0 : Nat) (l0 : List Int) (A1 : Option Addr) (c1 : Nat) (l1 : List Int) (r : Bool) (w : World) (hT : TabW w) (hr0 : Kd.C (Kd.int .i64) w A0 l0.length l0) (hc0 : l0.length ≤ c0) (hr1 : Kd.C (Kd.int .i64) w A1 l1.length l1) (hc1 : l1.length ≤ c1) (h : schismalaw11_PrimeRefuses.f k l0 l1 = some r) (hr : r = true) (hk : ∀ k, schismalaw11_known.f k ≠ some false) :
    Calls Tryz.prog 19 #[.slice A0 l0.length c0, .slice A1 l1.length c1] w fun e w' => e = .returned (.bool r) ∧ Below w.heap.size w w' := by
  have hu38 := Tryz.underlying38
  have HR0 := Aside0.mk hr0
  have HC0 := Aside0.mk hc0
  clear hr0 hc0
  have HR1 := Aside0.mk hr1
  have HC1 := Aside0.mk hc1
  clear hr1 hc1
  have HB := Aside0.mk (Below.refl w.heap.size w)
  have H : ((schismalaw11_known.f k).bind fun t1692 => (if t1692 = true then (if (l0.length : Int) > 9 then (schismalaw11_PrimeRefuses.j0 k l0 l1 true) else (schismalaw11_PrimeRefuses.j0 k l0 l1 (decide ((l1.length : Int) > 9)))) else (schismalaw11_PrimeRefuses.j0 k l0 l1 true))) = some r := h
  clear h
  have HC3 := Aside0.mk H
  clear H
  go_enter Tryz.func19, Tryz.ntmps19
  go_upto_region 1 with (fail)
  go_cut [34] (fun v34 wc => ∃ (kq : Nat) (x34_2 : Bool), v34 = .bool x34_2 ∧ Aside0 (schismalaw11_PrimeRefuses.j0 kq l0 l1 x34_2 = some r) ∧ Aside0 (kq ≤ k) ∧ Aside0 (Below w.heap.size w wc))
  case first =>
    have H := HC3.out
    clear HC3
    replace H := Option.bind_eq_some_iff.mp H
    obtain ⟨t1692, A40, H⟩ := H
    replace H : (if t1692 = true then (if (l0.length : Int) > 9 then (schismalaw11_PrimeRefuses.j0 k l0 l1 true) else (schismalaw11_PrimeRefuses.j0 k l0 l1 (decide ((l1.length : Int) > 9)))) else (schismalaw11_PrimeRefuses.j0 k l0 l1 true)) = some r := H
    have A4 := Aside0.mk A40
    clear A40
    by_cases c5 : t1692 = true
    · subst c5
      have H1 : (if (l0.length : Int) > 9 then (schismalaw11_PrimeRefuses.j0 k l0 l1 true) else (schismalaw11_PrimeRefuses.j0 k l0 l1 (decide ((l1.length : Int) > 9)))) = some r := by rw [if_pos rfl] at H; exact H
      clear H
      have H := H1
      clear H1
      by_cases c6 : (l0.length : Int) > 9
      · rw [if_pos c6] at H
        have c6b0 : decide (9 < (l0.length : Int)) = true := decide_eq_true c6
        have c6b1 : decide (9 < l0.length) = true := decide_eq_true (by omega)
        clear c6
        (first | rw [c6b0] | (simp only [i64_w, i32_w]; rw [c6b0]) | skip)
        have H' := Aside0.mk H
        clear H
        go_wp2_with (first | ((with_reducible refine gate_callee (f := 58) rfl ?_); refine goesL_ (some 23) rfl rfl Tryz.func58 (by kernel_rfl) rfl #[] rfl (by (try simp only [List.map_toArray, List.map_cons, List.map_nil]); first | done | rfl | (simp only [List.length_drop, List.length_take]; rfl)) ?_; (with_reducible refine (schismalaw11_known.calls k  true _ ?side1 A4.out (by first | rfl | assumption)).mono ?_); (case side1 => refine TabW.below hT ?_; repeat (first | (with_reducible first | exact HB.out | apply below_alloc | apply pw_below_drewN | apply below_drew1) | exact HB.out)); rintro e w7 ⟨rfl, hb⟩; refine ⟨_, rfl, ?_⟩; have n0_ := Aside0.mk (below_step (by repeat (first | (with_reducible first | exact HB.out | apply below_alloc | apply pw_below_drewN | apply below_drew1) | exact HB.out)) hb); clear HB; have HB := n0_; clear n0_; (try clear hb); (try clear hb2); (try clear hk); (try clear hi)))
        go_meet
        case rel => exact ⟨_, (true), (by first | rfl | (simp; done) | (simp [*]; done)), H', ⟨by first | omega | exact Nat.le_refl _⟩, ⟨by repeat (first | (with_reducible first | exact HB.out | apply below_alloc | apply pw_below_drewN | apply below_drew1) | exact HB.out)⟩⟩
      · rw [if_neg c6] at H
        have c6b0 : decide (9 < (l0.length : Int)) = false := decide_eq_false c6
        have c6b1 : decide (9 < l0.length) = false := decide_eq_false (by omega)
        clear c6
        (first | rw [c6b0] | (simp only [i64_w, i32_w]; rw [c6b0]) | skip)
        have H' := Aside0.mk H
        clear H
        go_wp2_with (first | ((with_reducible refine gate_callee (f := 58) rfl ?_); refine goesL_ (some 23) rfl rfl Tryz.func58 (by kernel_rfl) rfl #[] rfl (by (try simp only [List.map_toArray, List.map_cons, List.map_nil]); first | done | rfl | (simp only [List.length_drop, List.length_take]; rfl)) ?_; (with_reducible refine (schismalaw11_known.calls k  true _ ?side1 A4.out (by first | rfl | assumption)).mono ?_); (case side1 => refine TabW.below hT ?_; repeat (first | (with_reducible first | exact HB.out | apply below_alloc | apply pw_below_drewN | apply below_drew1) | exact HB.out)); rintro e w8 ⟨rfl, hb⟩; refine ⟨_, rfl, ?_⟩; have n0_ := Aside0.mk (below_step (by repeat (first | (with_reducible first | exact HB.out | apply below_alloc | apply pw_below_drewN | apply below_drew1) | exact HB.out)) hb); clear HB; have HB := n0_; clear n0_; (try clear hb); (try clear hb2); (try clear hk); (try clear hi)))
        go_meet
        case rel => exact ⟨_, (decide ((l1.length : Int) > 9)), (by first | rfl | (simp; done) | (simp [*]; done)), H', ⟨by first | omega | exact Nat.le_refl _⟩, ⟨by repeat (first | (with_reducible first | exact HB.out | apply below_alloc | apply pw_below_drewN | apply below_drew1) | exact HB.out)⟩⟩
    · replace c5 := Bool.eq_false_iff.mpr c5
      subst c5
      have H1 : (schismalaw11_PrimeRefuses.j0 k l0 l1 true) = some r := by rw [if_neg (show ¬ (false = true) by decide)] at H; exact H
      clear H
      have H := H1
      clear H1
      have H' := Aside0.mk H
      clear H
      exact absurd A4.out (hk _)
  case rest =>
    clear HC3
    try clear c1
    try clear p2
    try clear c5
    try clear c6
    try clear c6b0
    try clear c6b1
    obtain ⟨kq, x34_2, rfl, HA, HJ2, HB⟩ := hcut
    cases kq with
    | zero => exact absurd HA.out (by simp [schismalaw11_PrimeRefuses.j0])
    | succ kj2 =>
      have H := HA.out
      clear HA
      simp only [schismalaw11_PrimeRefuses.j0] at H
      by_cases c10 : x34_2 = true
      · subst c10
        have H1 : ((schismalaw11_known.f kj2).bind fun t1693 => (some t1693)) = some r := by rw [if_pos rfl] at H; exact H
        clear H
        have H := H1
        clear H1
        replace H := Option.bind_eq_some_iff.mp H
        obtain ⟨t1693, A110, H⟩ := H
        replace H : (some t1693) = some r := H
        have A11 := Aside0.mk A110
        clear A110
        obtain rfl := Option.some.inj H
        go_wp2_with (first | ((with_reducible refine gate_callee (f := 58) rfl ?_); refine goesL_ (some 35) rfl rfl Tryz.func58 (by kernel_rfl) rfl #[] rfl (by (try simp only [List.map_toArray, List.map_cons, List.map_nil]); first | done | rfl | (simp only [List.length_drop, List.length_take]; rfl)) ?_; (with_reducible refine (schismalaw11_known.calls kj2  t1693 _ ?side1 A11.out (by first | rfl | assumption)).mono ?_); (case side1 => refine TabW.below hT ?_; repeat (first | (with_reducible first | exact HB.out | apply below_alloc | apply pw_below_drewN | apply below_drew1) | exact HB.out)); rintro e w12 ⟨rfl, hb⟩; refine ⟨_, rfl, ?_⟩; have n0_ := Aside0.mk (below_step (by repeat (first | (with_reducible first | exact HB.out | apply below_alloc | apply pw_below_drewN | apply below_drew1) | exact HB.out)) hb); clear HB; have HB := n0_; clear n0_; (try clear hb); (try clear hb2); (try clear hk); (try clear hi)))
        go_ret
        exact ⟨by first | rfl | (simp [errW_none, errW_some] <;> rfl) | (simp [*, errW_none, errW_some] <;> rfl), by repeat (first | (with_reducible first | exact HB.out | apply below_alloc | apply pw_below_drewN | apply below_drew1) | exact HB.out)⟩
      · replace c10 := Bool.eq_false_iff.mpr c10
        subst c10
        have H1 : ((schismalaw11_check.f kj2 l0).bind fun t1694 => (if t1694 = 0 then (schismalaw11_PrimeRefuses.j1 kj2 l0 l1) else ((cprime_Factor.f kj2 l0 (⟨#[49]⟩ : ByteArray) (⟨#[49]⟩ : ByteArray)).bind fun bt1695 => ((cprime_Value.f kj2 l0 ([] : List Int)).bind fun bt1699 => ((cprime_Smooth.f kj2 l0 (⟨#[49]⟩ : ByteArray) (⟨#[49]⟩ : ByteArray)).bind fun bt1703 => ((cprime_Text.f kj2 l0).bind fun bt1705 => (if bt1695.2 = t1694 then (if bt1699.2.2 = t1694 then (if bt1703.2 = t1694 then (if bt1705.2 = t1694 then (if bt1703.1 = true then (some false) else (if (bt1695.1.length : Int) > 0 then (some false) else (if (!(bt1699.1.toList == ([] : List UInt8)) || (!(bt1699.2.1.toList == ([] : List UInt8)))) = true then (some false) else (if bt1705.1.toList = ([] : List UInt8) then (schismalaw11_PrimeRefuses.j1 kj2 l0 l1) else (some false))))) else (some false)) else (some false)) else (some false)) else (some false)))))))) = some r := by rw [if_neg (show ¬ (false = true) by decide)] at H; exact H
        clear H
        have H := H1
        clear H1
        replace H := Option.bind_eq_some_iff.mp H
        obtain ⟨t1694, A130, H⟩ := H
        replace H : (if t1694 = 0 then (schismalaw11_PrimeRefuses.j1 kj2 l0 l1) else ((cprime_Factor.f kj2 l0 (⟨#[49]⟩ : ByteArray) (⟨#[49]⟩ : ByteArray)).bind fun bt1695 => ((cprime_Value.f kj2 l0 ([] : List Int)).bind fun bt1699 => ((cprime_Smooth.f kj2 l0 (⟨#[49]⟩ : ByteArray) (⟨#[49]⟩ : ByteArray)).bind fun bt1703 => ((cprime_Text.f kj2 l0).bind fun bt1705 => (if bt1695.2 = t1694 then (if bt1699.2.2 = t1694 then (if bt1703.2 = t1694 then (if bt1705.2 = t1694 then (if bt1703.1 = true then (some false) else (if (bt1695.1.length : Int) > 0 then (some false) else (if (!(bt1699.1.toList == ([] : List UInt8)) || (!(bt1699.2.1.toList == ([] : List UInt8)))) = true then (some false) else (if bt1705.1.toList = ([] : List UInt8) then (schismalaw11_PrimeRefuses.j1 kj2 l0 l1) else (some false))))) else (some false)) else (some false)) else (some false)) else (some false))))))) = some r := H
        have A13 := Aside0.mk A130
        clear A130
        have HC14 := Aside0.mk H
        clear H
        go_upto_if 39 with (first | ((with_reducible refine gate_callee (f := 61) rfl ?_); refine goesL_ (some 37) rfl rfl Tryz.func61 (by kernel_rfl) rfl #[.slice A0 l0.length c0] rfl (by (try simp only [List.map_toArray, List.map_cons, List.map_nil]); first | done | rfl | (simp only [List.length_drop, List.length_take]; rfl)) ?_; (with_reducible refine (schismalaw11_check.calls kj2 _ _ l0 t1694 _ ?side1 ?side2 A13.out).mono ?_); (case side1 => repeat (first | exact (Kd.C_below HR0.out HB.out) | (with_reducible refine Kd.C_alloc ?_ _) | (with_reducible refine Kd.C_drewN ?_ _) | (with_reducible refine Kd.C_drew ?_))); (case side2 => exact HC0.out); rintro e w' ⟨rfl, ⟨nd, rfl⟩⟩; refine ⟨_, rfl, ?_⟩))
        (try simp only [Act.put, List.setIfInBounds_toArray, List.set_cons_zero, List.set_cons_succ])
        go_cut [] (fun wc => ∃ (kq : Nat), Aside0 (schismalaw11_PrimeRefuses.j1 kq l0 l1 = some r) ∧ Aside0 (kq ≤ kj2) ∧ Aside0 (Below w.heap.size w wc))
        case first =>
          have H := HC14.out
          clear HC14
          by_cases c15 : t1694 = 0
          · rw [if_pos c15] at H
            have c15b0 : (t1694 == 0) = true := beq_iff_eq.mpr c15
            have c15b1 : (t1694 != 0) = false := bne_eq_false_iff_eq.mpr c15
            clear c15
            (first | rw [c15b0] | (simp only [i64_w, i32_w]; rw [c15b0]) | skip)
            have H' := Aside0.mk H
            clear H
            go_wp2
            go_meet
            case rel => exact ⟨_, H', ⟨by have := HJ2.out; first | omega | exact Nat.le_refl _⟩, ⟨by repeat (first | (with_reducible first | exact HB.out | apply below_alloc | apply pw_below_drewN | apply below_drew1) | exact HB.out)⟩⟩
          · rw [if_neg c15] at H
            have c15b0 : (t1694 == 0) = false := beq_eq_false_iff_ne.mpr c15
            have c15b1 : (t1694 != 0) = true := bne_iff_ne.mpr c15
            (first | rw [c15b0] | (simp only [i64_w, i32_w]; rw [c15b0]) | skip)
            replace H := Option.bind_eq_some_iff.mp H
            obtain ⟨⟨t1695, t1698⟩, A160, H⟩ := H
            replace H : ((cprime_Value.f kj2 l0 ([] : List Int)).bind fun bt1699 => ((cprime_Smooth.f kj2 l0 (⟨#[49]⟩ : ByteArray) (⟨#[49]⟩ : ByteArray)).bind fun bt1703 => ((cprime_Text.f kj2 l0).bind fun bt1705 => (if t1698 = t1694 then (if bt1699.2.2 = t1694 then (if bt1703.2 = t1694 then (if bt1705.2 = t1694 then (if bt1703.1 = true then (some false) else (if (t1695.length : Int) > 0 then (some false) else (if (!(bt1699.1.toList == ([] : List UInt8)) || (!(bt1699.2.1.toList == ([] : List UInt8)))) = true then (some false) else (if bt1705.1.toList = ([] : List UInt8) then (schismalaw11_PrimeRefuses.j1 kj2 l0 l1) else (some false))))) else (some false)) else (some false)) else (some false)) else (some false))))) = some r := H
            have A16 := Aside0.mk A160
            clear A160
            replace H := Option.bind_eq_some_iff.mp H
            obtain ⟨⟨t1699, t1700, t1701⟩, A170, H⟩ := H
            replace H : ((cprime_Smooth.f kj2 l0 (⟨#[49]⟩ : ByteArray) (⟨#[49]⟩ : ByteArray)).bind fun bt1703 => ((cprime_Text.f kj2 l0).bind fun bt1705 => (if t1698 = t1694 then (if t1701 = t1694 then (if bt1703.2 = t1694 then (if bt1705.2 = t1694 then (if bt1703.1 = true then (some false) else (if (t1695.length : Int) > 0 then (some false) else (if (!(t1699.toList == ([] : List UInt8)) || (!(t1700.toList == ([] : List UInt8)))) = true then (some false) else (if bt1705.1.toList = ([] : List UInt8) then (schismalaw11_PrimeRefuses.j1 kj2 l0 l1) else (some false))))) else (some false)) else (some false)) else (some false)) else (some false)))) = some r := H
            have A17 := Aside0.mk A170
            clear A170
            replace H := Option.bind_eq_some_iff.mp H
            obtain ⟨⟨t1703, t1704⟩, A180, H⟩ := H
            replace H : ((cprime_Text.f kj2 l0).bind fun bt1705 => (if t1698 = t1694 then (if t1701 = t1694 then (if t1704 = t1694 then (if bt1705.2 = t1694 then (if t1703 = true then (some false) else (if (t1695.length : Int) > 0 then (some false) else (if (!(t1699.toList == ([] : List UInt8)) || (!(t1700.toList == ([] : List UInt8)))) = true then (some false) else (if bt1705.1.toList = ([] : List UInt8) then (schismalaw11_PrimeRefuses.j1 kj2 l0 l1) else (some false))))) else (some false)) else (some false)) else (some false)) else (some false))) = some r := H
            have A18 := Aside0.mk A180
            clear A180
            replace H := Option.bind_eq_some_iff.mp H
            obtain ⟨⟨t1705, t1706⟩, A190, H⟩ := H
            replace H : (if t1698 = t1694 then (if t1701 = t1694 then (if t1704 = t1694 then (if t1706 = t1694 then (if t1703 = true then (some false) else (if (t1695.length : Int) > 0 then (some false) else (if (!(t1699.toList == ([] : List UInt8)) || (!(t1700.toList == ([] : List UInt8)))) = true then (some false) else (if t1705.toList = ([] : List UInt8) then (schismalaw11_PrimeRefuses.j1 kj2 l0 l1) else (some false))))) else (some false)) else (some false)) else (some false)) else (some false)) = some r := H
            have A19 := Aside0.mk A190
            clear A190
            by_cases c20 : t1698 = t1694
            · rw [if_pos c20] at H
              have c20b0 : (t1698 == t1694) = true := beq_iff_eq.mpr c20
              have c20b1 : (t1698 != t1694) = false := bne_eq_false_iff_eq.mpr c20
              clear c20
              by_cases c21 : t1701 = t1694
              · rw [if_pos c21] at H
                have c21b0 : (t1701 == t1694) = true := beq_iff_eq.mpr c21
                have c21b1 : (t1701 != t1694) = false := bne_eq_false_iff_eq.mpr c21
                clear c21
                by_cases c22 : t1704 = t1694
                · rw [if_pos c22] at H
                  have c22b0 : (t1704 == t1694) = true := beq_iff_eq.mpr c22
                  have c22b1 : (t1704 != t1694) = false := bne_eq_false_iff_eq.mpr c22
                  clear c22
                  by_cases c23 : t1706 = t1694
                  · rw [if_pos c23] at H
                    have c23b0 : (t1706 == t1694) = true := beq_iff_eq.mpr c23
                    have c23b1 : (t1706 != t1694) = false := bne_eq_false_iff_eq.mpr c23
                    clear c23
                    by_cases c24 : t1703 = true
                    · subst c24
                      have H1 : (some false) = some r := by rw [if_pos rfl] at H; exact H
                      clear H
                      have H := H1
                      clear H1
                      exact absurd ((Option.some.inj H).trans hr) Bool.false_ne_true
                    · replace c24 := Bool.eq_false_iff.mpr c24
                      subst c24
                      have H1 : (if (t1695.length : Int) > 0 then (some false) else (if (!(t1699.toList == ([] : List UInt8)) || (!(t1700.toList == ([] : List UInt8)))) = true then (some false) else (if t1705.toList = ([] : List UInt8) then (schismalaw11_PrimeRefuses.j1 kj2 l0 l1) else (some false)))) = some r := by rw [if_neg (show ¬ (false = true) by decide)] at H; exact H
                      clear H
                      have H := H1
                      clear H1
                      by_cases c31 : (t1695.length : Int) > 0
                      · rw [if_pos c31] at H
                        have c31b0 : decide (0 < (t1695.length : Int)) = true := decide_eq_true c31
                        have c31b1 : decide (0 < t1695.length) = true := decide_eq_true (by omega)
                        clear c31
                        exact absurd ((Option.some.inj H).trans hr) Bool.false_ne_true
                      · rw [if_neg c31] at H
                        have c31b0 : decide (0 < (t1695.length : Int)) = false := decide_eq_false c31
                        have c31b1 : decide (0 < t1695.length) = false := decide_eq_false (by omega)
                        clear c31
                        by_cases c39 : (!(t1699.toList == ([] : List UInt8)) || (!(t1700.toList == ([] : List UInt8)))) = true
                        · rw [if_pos c39] at H
                          have c39b0 : (!(t1699.toList == ([] : List UInt8)) || (!(t1700.toList == ([] : List UInt8)))) = true := c39
                          clear c39
                          exact absurd ((Option.some.inj H).trans hr) Bool.false_ne_true
                        · rw [if_neg c39] at H
                          have c39b0 : (!(t1699.toList == ([] : List UInt8)) || (!(t1700.toList == ([] : List UInt8)))) = false := by simpa using c39
                          have c39p : t1699.toList = [] ∧ t1700.toList = [] := by simpa using c39
                          obtain ⟨c39q, c39r⟩ := c39p
                          clear c39
                          by_cases c48 : t1705.toList = ([] : List UInt8)
                          · rw [if_pos c48] at H
                            have c48b0 : (t1705.toList == ([] : List UInt8)) = true := beq_iff_eq.mpr c48
                            have c48b1 : (t1705.toList != ([] : List UInt8)) = false := bne_eq_false_iff_eq.mpr c48
                            clear c48
                            have H' := Aside0.mk H
                            clear H
                            go_wp2_with (first | ((with_reducible refine gate_callee (f := 78) rfl ?_); refine goesL_ (some 43) rfl rfl Tryz.func78 (by kernel_rfl) rfl #[.slice A0 l0.length c0, .agg #[.string (⟨#[49]⟩ : ByteArray), .string (⟨#[49]⟩ : ByteArray)]] rfl (by (try simp only [List.map_toArray, List.map_cons, List.map_nil]); first | done | rfl | (simp only [List.length_drop, List.length_take]; rfl)) ?_; (with_reducible refine (cprime_Factor.calls kj2 _ _ l0 (⟨#[49]⟩ : ByteArray) (⟨#[49]⟩ : ByteArray) t1695 t1698 _ ?side1 ?side2 ?side3 A16.out).mono ?_); (case side1 => refine TabW.below hT ?_; repeat (first | (with_reducible first | exact HB.out | apply below_alloc | apply pw_below_drewN | apply below_drew1) | exact HB.out)); (case side2 => repeat (first | exact (Kd.C_below HR0.out HB.out) | (with_reducible refine Kd.C_alloc ?_ _) | (with_reducible refine Kd.C_drewN ?_ _) | (with_reducible refine Kd.C_drew ?_))); (case side3 => exact HC0.out); rintro e w49 ⟨v1696, rfl, ho0, hb⟩; refine ⟨_, rfl, ?_⟩; have n0_ := Aside0.mk (Kd.R_lower ho0 (below_size (by repeat (first | (with_reducible first | exact HB.out | apply below_alloc | apply pw_below_drewN | apply below_drew1) | exact HB.out)))); have n1_ := Aside0.mk (below_step (by repeat (first | (with_reducible first | exact HB.out | apply below_alloc | apply pw_below_drewN | apply below_drew1) | exact HB.out)) hb); clear HB; have HO1697 := n0_; have HB := n1_; clear n0_ n1_; (try clear hb); (try clear hb2); (try clear hk); (try clear hi); (try clear ho0)) | ((with_reducible refine gate_callee (f := 79) rfl ?_); refine goesL_ (some 48) rfl rfl Tryz.func79 (by kernel_rfl) rfl #[.slice A0 l0.length c0, .slice none 0 0] rfl (by (try simp only [List.map_toArray, List.map_cons, List.map_nil]); first | done | rfl | (simp only [List.length_drop, List.length_take]; rfl)) ?_; (refine (cprime_Value.calls kj2 _ _ l0 _ _ ([] : List Int) t1699 t1700 t1701 _ ?side1 ?side2 ?side3 ?side4 ?side5 A17.out).mono ?_); (case side1 => refine TabW.below hT ?_; repeat (first | (with_reducible first | exact HB.out | apply below_alloc | apply pw_below_drewN | apply below_drew1) | exact HB.out)); (case side2 => repeat (first | exact (Kd.C_below HR0.out HB.out) | (with_reducible refine Kd.C_alloc ?_ _) | (with_reducible refine Kd.C_drewN ?_ _) | (with_reducible refine Kd.C_drew ?_))); (case side3 => exact HC0.out); (case side4 => exact Kd.C_nil _ _); (case side5 => exact Nat.le_refl _); rintro e w50 ⟨rfl, hb⟩; refine ⟨_, rfl, ?_⟩; have n0_ := Aside0.mk (Kd.R_below (by (with_reducible repeat (first | apply Kd.R_alloc | apply Kd.R_drewN | apply Kd.R_drew)); exact HO1697.out) hb); have n1_ := Aside0.mk (below_step (by repeat (first | (with_reducible first | exact HB.out | apply below_alloc | apply pw_below_drewN | apply below_drew1) | exact HB.out)) hb); clear HO1697; clear HB; have HO1697 := n0_; have HB := n1_; clear n0_ n1_; (try clear hb); (try clear hb2); (try clear hk); (try clear hi)) | ((with_reducible refine gate_dst (N := 8) rfl ?_); (try (refine gate_guard (by rfl) ?_; dsimp only)); refine box_event ?hg (N := 8) ?hd (cs := #[.string (⟨#[]⟩ : ByteArray), .string (⟨#[]⟩ : ByteArray)]) (t := 38) ?hr ?_; (case hd => rfl); (case hg => rfl); (case hr => first | (go_simp; done) | (go_simp; rfl)); intro gb1702 hg w51 hbox hb; have n0_ := Aside0.mk (Kd.R_below (by (with_reducible repeat (first | apply Kd.R_alloc | apply Kd.R_drewN | apply Kd.R_drew)); exact HO1697.out) hb); have n1_ := Aside0.mk (below_step (by repeat (first | (with_reducible first | exact HB.out | apply below_alloc | apply pw_below_drewN | apply below_drew1) | exact HB.out)) hb); have n2_ := Aside0.mk (hbox); have n3_ := Aside0.mk ((by rw [hg]; exact (below_size (by repeat (first | (with_reducible first | exact HB.out | apply below_alloc | apply pw_below_drewN | apply below_drew1) | exact HB.out))) : w.heap.size ≤ gb1702)); have n4_ := Aside0.mk ((by rw [hg]; exact (below_size (by repeat (first | (with_reducible first | exact HB.out | apply below_alloc | apply pw_below_drewN | apply below_drew1) | exact HB.out))) : w.heap.size ≤ gb1702)); clear HO1697; clear HB; have HO1697 := n0_; have HB := n1_; have BK1702 := n2_; have GW1702 := n3_; have GE1702 := n4_; clear n0_ n1_ n2_ n3_ n4_; clear hb hbox hg; have hcz52_0 : w51.cell? ⟨gb1702, 0, none⟩ = some (.string (⟨#[]⟩ : ByteArray)) := (blk_cell BK1702.out 0).trans rfl; have hcz52_1 : w51.cell? ⟨gb1702, 1, none⟩ = some (.string (⟨#[]⟩ : ByteArray)) := (blk_cell BK1702.out 1).trans rfl; have hfz52_0 := blk_frozen BK1702.out 0; have hfz52_1 := blk_frozen BK1702.out 1) | ((with_reducible refine gate_callee (f := 81) rfl ?_); refine goesL_ (some 54) rfl rfl Tryz.func81 (by kernel_rfl) rfl #[.slice A0 l0.length c0, .agg #[.string (⟨#[49]⟩ : ByteArray), .string (⟨#[49]⟩ : ByteArray)]] rfl (by (try simp only [List.map_toArray, List.map_cons, List.map_nil]); first | done | rfl | (simp only [List.length_drop, List.length_take]; rfl)) ?_; (with_reducible refine (cprime_Smooth.calls kj2 _ _ l0 (⟨#[49]⟩ : ByteArray) (⟨#[49]⟩ : ByteArray) false t1704 _ ?side1 ?side2 ?side3 A18.out).mono ?_); (case side1 => refine TabW.below hT ?_; repeat (first | (with_reducible first | exact HB.out | apply below_alloc | apply pw_below_drewN | apply below_drew1 | refine below_set ?_ GE1702.out) | exact HB.out)); (case side2 => exact Kd.C_below HR0.out (by repeat (first | (with_reducible first | exact HB.out | apply below_alloc | apply pw_below_drewN | apply below_drew1 | refine below_set ?_ GE1702.out) | exact HB.out))); (case side3 => exact HC0.out); rintro e w53 ⟨rfl, hb⟩; refine ⟨_, rfl, ?_⟩; have n0_ := Aside0.mk (Kd.R_below (by (with_reducible repeat (first | apply Kd.R_alloc | apply Kd.R_drewN | apply Kd.R_drew)); exact (Kd.R_mono (Kd.R_far (p := ⟨gb1702, 1, none⟩) (Kd.R_far (p := ⟨gb1702, 0, none⟩) (Kd.R_types HO1697.out BK1702.out (by decide)) (fun _ hk => hk.2) (.string t1699)) (fun _ hk => hk.2) (.string t1700)) (fun _ h_ => h_.1))) hb); have n1_ := Aside0.mk (blk_below (g := gb1702) (o := .cells #[.string t1699, .string t1700] 38 (0, 0)) (by (with_reducible repeat (first | refine blk_drewN ?_ _ | refine blk_drew ?_ | refine blk_alloc ?_ _)); refine blk_put (cs := #[.string t1699, .string (⟨#[]⟩ : ByteArray)]) ?_ 1 _ rfl; (with_reducible repeat (first | refine blk_drewN ?_ _ | refine blk_drew ?_ | refine blk_alloc ?_ _)); refine blk_put (cs := #[.string (⟨#[]⟩ : ByteArray), .string (⟨#[]⟩ : ByteArray)]) ?_ 0 _ rfl; (with_reducible repeat (first | refine blk_drewN ?_ _ | refine blk_drew ?_ | refine blk_alloc ?_ _)); exact BK1702.out) hb); have n2_ := Aside0.mk (below_step (by repeat (first | (with_reducible first | exact HB.out | apply below_alloc | apply pw_below_drewN | apply below_drew1 | refine below_set ?_ GE1702.out) | exact HB.out)) hb); clear HO1697; clear BK1702; clear HB; have HO1697 := n0_; have BK1702 := n1_; have HB := n2_; clear n0_ n1_ n2_; (try clear hb); (try clear hb2); (try clear hk); (try clear hi)) | ((with_reducible refine gate_callee (f := 72) rfl ?_); refine goesL_ (some 59) rfl rfl Tryz.func72 (by kernel_rfl) rfl #[.slice A0 l0.length c0] rfl (by (try simp only [List.map_toArray, List.map_cons, List.map_nil]); first | done | rfl | (simp only [List.length_drop, List.length_take]; rfl)) ?_; (with_reducible refine (cprime_Text.calls kj2 _ _ l0 t1705 t1706 _ ?side1 ?side2 ?side3 A19.out).mono ?_); (case side1 => refine TabW.below hT ?_; repeat (first | (with_reducible first | exact HB.out | apply below_alloc | apply pw_below_drewN | apply below_drew1 | refine below_set ?_ GE1702.out) | exact HB.out)); (case side2 => repeat (first | exact (Kd.C_below HR0.out HB.out) | (with_reducible refine Kd.C_alloc ?_ _) | (with_reducible refine Kd.C_drewN ?_ _) | (with_reducible refine Kd.C_drew ?_))); (case side3 => exact HC0.out); rintro e w54 ⟨rfl, hb⟩; refine ⟨_, rfl, ?_⟩; have n0_ := Aside0.mk (Kd.R_below (by (with_reducible repeat (first | apply Kd.R_alloc | apply Kd.R_drewN | apply Kd.R_drew)); exact HO1697.out) hb); have n1_ := Aside0.mk (blk_below (g := gb1702) (o := .cells #[.string t1699, .string t1700] 38 (0, 0)) (by (with_reducible repeat (first | refine blk_drewN ?_ _ | refine blk_drew ?_ | refine blk_alloc ?_ _)); exact BK1702.out) hb); have n2_ := Aside0.mk (below_step (by repeat (first | (with_reducible first | exact HB.out | apply below_alloc | apply pw_below_drewN | apply below_drew1 | refine below_set ?_ GE1702.out) | exact HB.out)) hb); clear HO1697; clear BK1702; clear HB; have HO1697 := n0_; have BK1702 := n1_; have HB := n2_; clear n0_ n1_ n2_; (try clear hb); (try clear hb2); (try clear hk); (try clear hi); obtain ⟨Ao55, co55, eo55⟩ := Kd.R_slice HO1697.out; subst eo55; have hcz56_0 : w54.cell? ⟨gb1702, 0, none⟩ = some (.string t1699) := (blk_cell BK1702.out 0).trans rfl; have hcz56_1 : w54.cell? ⟨gb1702, 1, none⟩ = some (.string t1700) := (blk_cell BK1702.out 1).trans rfl; have hfz56_0 := blk_frozen BK1702.out 0; have hfz56_1 := blk_frozen BK1702.out 1))
                            go_meet
                            case rel => exact ⟨_, H', ⟨by have := HJ2.out; first | omega | exact Nat.le_refl _⟩, ⟨by repeat (first | (with_reducible first | exact HB.out | apply below_alloc | apply pw_below_drewN | apply below_drew1 | refine below_set ?_ GE1702.out) | exact HB.out)⟩⟩
                          · rw [if_neg c48] at H
                            have c48b0 : (t1705.toList == ([] : List UInt8)) = false := beq_eq_false_iff_ne.mpr c48
                            have c48b1 : (t1705.toList != ([] : List UInt8)) = true := bne_iff_ne.mpr c48
                            exact absurd ((Option.some.inj H).trans hr) Bool.false_ne_true
                  · rw [if_neg c23] at H
                    have c23b0 : (t1706 == t1694) = false := beq_eq_false_iff_ne.mpr c23
                    have c23b1 : (t1706 != t1694) = true := bne_iff_ne.mpr c23
                    exact absurd ((Option.some.inj H).trans hr) Bool.false_ne_true
                · rw [if_neg c22] at H
                  have c22b0 : (t1704 == t1694) = false := beq_eq_false_iff_ne.mpr c22
                  have c22b1 : (t1704 != t1694) = true := bne_iff_ne.mpr c22
                  exact absurd ((Option.some.inj H).trans hr) Bool.false_ne_true
              · rw [if_neg c21] at H
                have c21b0 : (t1701 == t1694) = false := beq_eq_false_iff_ne.mpr c21
                have c21b1 : (t1701 != t1694) = true := bne_iff_ne.mpr c21
                exact absurd ((Option.some.inj H).trans hr) Bool.false_ne_true
            · rw [if_neg c20] at H
              have c20b0 : (t1698 == t1694) = false := beq_eq_false_iff_ne.mpr c20
              have c20b1 : (t1698 != t1694) = true := bne_iff_ne.mpr c20
              exact absurd ((Option.some.inj H).trans hr) Bool.false_ne_true
        case rest =>
          clear HC14
          try clear c1
          try clear c2
          try clear p2
          try clear c3
          try clear c4
          try clear c5
          try clear c6
          try clear c6b0
          try clear c6b1
          try clear c7
          try clear c8
          try clear c10
          try clear c15
          try clear c15b0
          try clear c15b1
          try clear c19
          try clear c20
          try clear c20b0
          try clear c20b1
          try clear c21
          try clear c21b0
          try clear c21b1
          try clear c22
          try clear c22b0
          try clear c22b1
          try clear c23
          try clear c23b0
          try clear c23b1
          try clear c24
          try clear c31
          try clear c31b0
          try clear c31b1
          try clear c39
          try clear c39b0
          try clear c48
          try clear c48b0
          try clear c48b1
          try clear c58
          try clear c61
          try clear c72
          try clear c78
          try clear c79
          try clear c81
          try clear hcz28_0
          try clear hcz28_1
          try clear hcz35_0
          try clear hcz35_1
          try clear hcz43_0
          try clear hcz43_1
          try clear hcz47_0
          try clear hcz47_1
          try clear hcz52_0
          try clear hcz52_1
          try clear hcz56_0
          try clear hcz56_1
          try clear hcz60_0
          try clear hcz60_1
          try clear hcz64_0
          try clear hcz64_1
          try clear hcz68_0
          try clear hcz68_1
          try clear hcz74_0
          try clear hcz74_1
          try clear hcz80_0
          try clear hcz80_1
          try clear hcz86_0
          try clear hcz86_1
          try clear hfz28_0
          try clear hfz28_1
          try clear hfz35_0
          try clear hfz35_1
          try clear hfz43_0
          try clear hfz43_1
          try clear hfz47_0
          try clear hfz47_1
          try clear hfz52_0
          try clear hfz52_1
          try clear hfz56_0
          try clear hfz56_1
          try clear hfz60_0
          try clear hfz60_1
          try clear hfz64_0
          try clear hfz64_1
          try clear hfz68_0
          try clear hfz68_1
          try clear hfz74_0
          try clear hfz74_1
          try clear hfz80_0
          try clear hfz80_1
          try clear hfz86_0
          try clear hfz86_1
          try clear p2
          obtain ⟨kq, HA, HJ13, HB⟩ := hcut
          cases kq with
          | zero => exact absurd HA.out (by simp [schismalaw11_PrimeRefuses.j1])
          | succ kj13 =>
            have H := HA.out
            clear HA
            simp only [schismalaw11_PrimeRefuses.j1] at H
            replace H := Option.bind_eq_some_iff.mp H
            obtain ⟨t1707, A890, H⟩ := H
            replace H : (if t1707 = 0 then ((schismalaw11_check.f kj13 l1).bind fun t1708 => (schismalaw11_PrimeRefuses.j2 kj13 l0 l1 t1708)) else (schismalaw11_PrimeRefuses.j2 kj13 l0 l1 t1707)) = some r := H
            have A89 := Aside0.mk A890
            clear A890
            have HC90 := Aside0.mk H
            clear H
            go_upto_if 100 with (first | ((with_reducible refine gate_callee (f := 61) rfl ?_); refine goesL_ (some 98) rfl rfl Tryz.func61 (by kernel_rfl) rfl #[.slice A0 l0.length c0] rfl (by (try simp only [List.map_toArray, List.map_cons, List.map_nil]); first | done | rfl | (simp only [List.length_drop, List.length_take]; rfl)) ?_; (with_reducible refine (schismalaw11_check.calls kj13 _ _ l0 t1707 _ ?side1 ?side2 A89.out).mono ?_); (case side1 => repeat (first | exact (Kd.C_below HR0.out HB.out) | (with_reducible refine Kd.C_alloc ?_ _) | (with_reducible refine Kd.C_drewN ?_ _) | (with_reducible refine Kd.C_drew ?_))); (case side2 => exact HC0.out); rintro e w' ⟨rfl, ⟨nd, rfl⟩⟩; refine ⟨_, rfl, ?_⟩))
            (try simp only [Act.put, List.setIfInBounds_toArray, List.set_cons_zero, List.set_cons_succ])
            go_cut [14] (fun v14 wc => ∃ (kq : Nat) (x14_89 : Int), v14 = .int .i64 x14_89 ∧ Aside0 (schismalaw11_PrimeRefuses.j2 kq l0 l1 x14_89 = some r) ∧ Aside0 (kq ≤ kj13) ∧ Aside0 (Below w.heap.size w wc))
            case first =>
              have H := HC90.out
              clear HC90
              by_cases c91 : t1707 = 0
              · rw [if_pos c91] at H
                have c91b0 : (t1707 == 0) = true := beq_iff_eq.mpr c91
                have c91b1 : (t1707 != 0) = false := bne_eq_false_iff_eq.mpr c91
                clear c91
                (first | rw [c91b0] | (simp only [i64_w, i32_w]; rw [c91b0]) | skip)
                replace H := Option.bind_eq_some_iff.mp H
                obtain ⟨t1708, A920, H⟩ := H
                replace H : (schismalaw11_PrimeRefuses.j2 kj13 l0 l1 t1708) = some r := H
                have A92 := Aside0.mk A920
                clear A920
                have H' := Aside0.mk H
                clear H
                go_wp2_with (first | ((with_reducible refine gate_callee (f := 61) rfl ?_); refine goesL_ (some 102) rfl rfl Tryz.func61 (by kernel_rfl) rfl #[.slice A1 l1.length c1] rfl (by (try simp only [List.map_toArray, List.map_cons, List.map_nil]); first | done | rfl | (simp only [List.length_drop, List.length_take]; rfl)) ?_; (with_reducible refine (schismalaw11_check.calls kj13 _ _ l1 t1708 _ ?side1 ?side2 A92.out).mono ?_); (case side1 => repeat (first | exact (Kd.C_below HR1.out HB.out) | (with_reducible refine Kd.C_alloc ?_ _) | (with_reducible refine Kd.C_drewN ?_ _) | (with_reducible refine Kd.C_drew ?_))); (case side2 => exact HC1.out); rintro e w' ⟨rfl, ⟨nd, rfl⟩⟩; refine ⟨_, rfl, ?_⟩))
                go_meet
                case rel => exact ⟨_, (t1708), (by first | rfl | (simp; done) | (simp [*]; done)), H', ⟨by have := HJ2.out; have := HJ13.out; first | omega | exact Nat.le_refl _⟩, ⟨by repeat (first | (with_reducible first | exact HB.out | apply below_alloc | apply pw_below_drewN | apply below_drew1) | exact HB.out)⟩⟩
              · rw [if_neg c91] at H
                have c91b0 : (t1707 == 0) = false := beq_eq_false_iff_ne.mpr c91
                have c91b1 : (t1707 != 0) = true := bne_iff_ne.mpr c91
                (first | rw [c91b0] | (simp only [i64_w, i32_w]; rw [c91b0]) | skip)
                have H' := Aside0.mk H
                clear H
                go_wp2
                go_meet
                case rel => exact ⟨_, (t1707), (by first | rfl | (simp; done) | (simp [*]; done)), H', ⟨by have := HJ2.out; have := HJ13.out; first | omega | exact Nat.le_refl _⟩, ⟨by repeat (first | (with_reducible first | exact HB.out | apply below_alloc | apply pw_below_drewN | apply below_drew1) | exact HB.out)⟩⟩
            case rest =>
              clear HC90
              try clear c1
              try clear c2
              try clear p2
              try clear c3
              try clear c4
              try clear c5
              try clear c6
              try clear c6b0
              try clear c6b1
              try clear c7
              try clear c8
              try clear c9
              try clear c10
              try clear c15
              try clear c15b0
              try clear c15b1
              try clear c19
              try clear c20
              try clear c20b0
              try clear c20b1
              try clear c21
              try clear c21b0
              try clear c21b1
              try clear c22
              try clear c22b0
              try clear c22b1
              try clear c23
              try clear c23b0
              try clear c23b1
              try clear c24
              try clear c31
              try clear c31b0
              try clear c31b1
              try clear c39
              try clear c39b0
              try clear c48
              try clear c48b0
              try clear c48b1
              try clear c58
              try clear c61
              try clear c72
              try clear c78
              try clear c79
              try clear c81
              try clear c91
              try clear c91b0
              try clear c91b1
              try clear hcz28_0
              try clear hcz28_1
              try clear hcz35_0
              try clear hcz35_1
              try clear hcz43_0
              try clear hcz43_1
              try clear hcz47_0
              try clear hcz47_1
              try clear hcz52_0
              try clear hcz52_1
              try clear hcz56_0
              try clear hcz56_1
              try clear hcz60_0
              try clear hcz60_1
              try clear hcz64_0
              try clear hcz64_1
              try clear hcz68_0
              try clear hcz68_1
              try clear hcz74_0
              try clear hcz74_1
              try clear hcz80_0
              try clear hcz80_1
              try clear hcz86_0
              try clear hcz86_1
              try clear hfz28_0
              try clear hfz28_1
              try clear hfz35_0
              try clear hfz35_1
              try clear hfz43_0
              try clear hfz43_1
              try clear hfz47_0
              try clear hfz47_1
              try clear hfz52_0
              try clear hfz52_1
              try clear hfz56_0
              try clear hfz56_1
              try clear hfz60_0
              try clear hfz60_1
              try clear hfz64_0
              try clear hfz64_1
              try clear hfz68_0
              try clear hfz68_1
              try clear hfz74_0
              try clear hfz74_1
              try clear hfz80_0
              try clear hfz80_1
              try clear hfz86_0
              try clear hfz86_1
              try clear p2
              obtain ⟨kq, x14_89, rfl, HA, HJ89, HB⟩ := hcut
              cases kq with
              | zero => exact absurd HA.out (by simp [schismalaw11_PrimeRefuses.j2])
              | succ kj89 =>
                have H := HA.out
                clear HA
                simp only [schismalaw11_PrimeRefuses.j2] at H
                by_cases c93 : x14_89 = 0
                · rw [if_pos c93] at H
                  have c93b0 : (x14_89 == 0) = true := beq_iff_eq.mpr c93
                  have c93b1 : (x14_89 != 0) = false := bne_eq_false_iff_eq.mpr c93
                  clear c93
                  obtain rfl := Option.some.inj H
                  go_wp2
                  go_ret
                  exact ⟨by first | rfl | (simp [errW_none, errW_some] <;> rfl) | (simp [*, errW_none, errW_some] <;> rfl), by repeat (first | (with_reducible first | exact HB.out | apply below_alloc | apply pw_below_drewN | apply below_drew1) | exact HB.out)⟩
                · rw [if_neg c93] at H
                  have c93b0 : (x14_89 == 0) = false := beq_eq_false_iff_ne.mpr c93
                  have c93b1 : (x14_89 != 0) = true := bne_iff_ne.mpr c93
                  replace H := Option.bind_eq_some_iff.mp H
                  obtain ⟨⟨t1709, t1710⟩, A940, H⟩ := H
                  replace H : ((cprime_Join.f kj89 l0 l1).bind fun bt1711 => ((cprime_Embed.f kj89 l0 l1 ([] : List Int)).bind fun bt1715 => ((cprime_Restrict.f kj89 l0 l1 ([] : List Int)).bind fun bt1719 => (if t1710 = x14_89 then (if bt1711.2 = x14_89 then (if bt1715.2 = x14_89 then (if bt1719.2 = x14_89 then (if t1709 = true then (some false) else (some ((wrap64 ((wrap64 ((bt1711.1.length : Int) + (bt1715.1.length : Int))) + (bt1719.1.length : Int))) == 0))) else (some false)) else (some false)) else (some false)) else (some false))))) = some r := H
                  have A94 := Aside0.mk A940
                  clear A940
                  replace H := Option.bind_eq_some_iff.mp H
                  obtain ⟨⟨t1711, t1714⟩, A950, H⟩ := H
                  replace H : ((cprime_Embed.f kj89 l0 l1 ([] : List Int)).bind fun bt1715 => ((cprime_Restrict.f kj89 l0 l1 ([] : List Int)).bind fun bt1719 => (if t1710 = x14_89 then (if t1714 = x14_89 then (if bt1715.2 = x14_89 then (if bt1719.2 = x14_89 then (if t1709 = true then (some false) else (some ((wrap64 ((wrap64 ((t1711.length : Int) + (bt1715.1.length : Int))) + (bt1719.1.length : Int))) == 0))) else (some false)) else (some false)) else (some false)) else (some false)))) = some r := H
                  have A95 := Aside0.mk A950
                  clear A950
                  replace H := Option.bind_eq_some_iff.mp H
                  obtain ⟨⟨t1715, t1716⟩, A960, H⟩ := H
                  replace H : ((cprime_Restrict.f kj89 l0 l1 ([] : List Int)).bind fun bt1719 => (if t1710 = x14_89 then (if t1714 = x14_89 then (if t1716 = x14_89 then (if bt1719.2 = x14_89 then (if t1709 = true then (some false) else (some ((wrap64 ((wrap64 ((t1711.length : Int) + (t1715.length : Int))) + (bt1719.1.length : Int))) == 0))) else (some false)) else (some false)) else (some false)) else (some false))) = some r := H
                  have A96 := Aside0.mk A960
                  clear A960
                  replace H := Option.bind_eq_some_iff.mp H
                  obtain ⟨⟨t1719, t1720⟩, A970, H⟩ := H
                  replace H : (if t1710 = x14_89 then (if t1714 = x14_89 then (if t1716 = x14_89 then (if t1720 = x14_89 then (if t1709 = true then (some false) else (some ((wrap64 ((wrap64 ((t1711.length : Int) + (t1715.length : Int))) + (t1719.length : Int))) == 0))) else (some false)) else (some false)) else (some false)) else (some false)) = some r := H
                  have A97 := Aside0.mk A970
                  clear A970
                  by_cases c98 : t1710 = x14_89
                  · rw [if_pos c98] at H
                    have c98b0 : (t1710 == x14_89) = true := beq_iff_eq.mpr c98
                    have c98b1 : (t1710 != x14_89) = false := bne_eq_false_iff_eq.mpr c98
                    clear c98
                    by_cases c99 : t1714 = x14_89
                    · rw [if_pos c99] at H
                      have c99b0 : (t1714 == x14_89) = true := beq_iff_eq.mpr c99
                      have c99b1 : (t1714 != x14_89) = false := bne_eq_false_iff_eq.mpr c99
                      clear c99
                      by_cases c100 : t1716 = x14_89
                      · rw [if_pos c100] at H
                        have c100b0 : (t1716 == x14_89) = true := beq_iff_eq.mpr c100
                        have c100b1 : (t1716 != x14_89) = false := bne_eq_false_iff_eq.mpr c100
                        clear c100
                        by_cases c101 : t1720 = x14_89
                        · rw [if_pos c101] at H
                          have c101b0 : (t1720 == x14_89) = true := beq_iff_eq.mpr c101
                          have c101b1 : (t1720 != x14_89) = false := bne_eq_false_iff_eq.mpr c101
                          clear c101
                          by_cases c102 : t1709 = true
                          · subst c102
                            have H1 : (some false) = some r := by rw [if_pos rfl] at H; exact H
                            clear H
                            have H := H1
                            clear H1
                            exact absurd ((Option.some.inj H).trans hr) Bool.false_ne_true
                          · replace c102 := Bool.eq_false_iff.mpr c102
                            subst c102
                            have H1 : (some ((wrap64 ((wrap64 ((t1711.length : Int) + (t1715.length : Int))) + (t1719.length : Int))) == 0)) = some r := by rw [if_neg (show ¬ (false = true) by decide)] at H; exact H
                            clear H
                            have H := H1
                            clear H1
                            obtain rfl := Option.some.inj H
                            go_wp2_with (first | ((with_reducible refine gate_callee (f := 87) rfl ?_); refine goesL_ (some 108) rfl rfl Tryz.func87 (by kernel_rfl) rfl #[.slice A0 l0.length c0, .slice A1 l1.length c1] rfl (by (try simp only [List.map_toArray, List.map_cons, List.map_nil]); first | done | rfl | (simp only [List.length_drop, List.length_take]; rfl)) ?_; (with_reducible refine (cprime_Within.calls kj89 _ _ l0 _ _ l1 false t1710 _ ?side1 ?side2 ?side3 ?side4 A94.out).mono ?_); (case side1 => repeat (first | exact (Kd.C_below HR0.out HB.out) | (with_reducible refine Kd.C_alloc ?_ _) | (with_reducible refine Kd.C_drewN ?_ _) | (with_reducible refine Kd.C_drew ?_))); (case side2 => exact HC0.out); (case side3 => repeat (first | exact (Kd.C_below HR1.out HB.out) | (with_reducible refine Kd.C_alloc ?_ _) | (with_reducible refine Kd.C_drewN ?_ _) | (with_reducible refine Kd.C_drew ?_))); (case side4 => exact HC1.out); rintro e w107 ⟨rfl, hb⟩; refine ⟨_, rfl, ?_⟩; have n0_ := Aside0.mk (below_step (by repeat (first | (with_reducible first | exact HB.out | apply below_alloc | apply pw_below_drewN | apply below_drew1) | exact HB.out)) hb); clear HB; have HB := n0_; clear n0_; (try clear hb); (try clear hb2); (try clear hk); (try clear hi)) | ((with_reducible refine gate_callee (f := 88) rfl ?_); refine goesL_ (some 114) rfl rfl Tryz.func88 (by kernel_rfl) rfl #[.slice A0 l0.length c0, .slice A1 l1.length c1] rfl (by (try simp only [List.map_toArray, List.map_cons, List.map_nil]); first | done | rfl | (simp only [List.length_drop, List.length_take]; rfl)) ?_; (with_reducible refine (cprime_Join.calls kj89 (fun k_ => k_ < w.heap.size) _ _ l0 (fun k_ => k_ < w.heap.size) _ _ l1 t1711 t1714 _ ?side1 ?side2 A95.out).mono ?_); (case side1 => exact Kd.V_mk HC0.out (Kd.F_below (Kd.C_F (Kd.heap_int .i64) HR0.out) (by repeat (first | (with_reducible first | exact HB.out | apply below_alloc | apply pw_below_drewN | apply below_drew1) | exact HB.out)))); (case side2 => exact Kd.V_mk HC1.out (Kd.F_below (Kd.C_F (Kd.heap_int .i64) HR1.out) (by repeat (first | (with_reducible first | exact HB.out | apply below_alloc | apply pw_below_drewN | apply below_drew1) | exact HB.out)))); rintro e w108 ⟨v1712, rfl, ho0, hb⟩; refine ⟨_, rfl, ?_⟩; have n0_ := Aside0.mk (Kd.R_lower (Kd.R_mono (ok' := fun k_ => True) ho0 (fun _ hk_ => trivial)) (below_size (by repeat (first | (with_reducible first | exact HB.out | apply below_alloc | apply pw_below_drewN | apply below_drew1) | exact HB.out)))); have n1_ := Aside0.mk (below_step (by repeat (first | (with_reducible first | exact HB.out | apply below_alloc | apply pw_below_drewN | apply below_drew1) | exact HB.out)) hb); clear HB; have HO1713 := n0_; have HB := n1_; clear n0_ n1_; (try clear hb); (try clear hb2); (try clear hk); (try clear hi); (try clear ho0)) | ((with_reducible refine gate_callee (f := 67) rfl ?_); refine goesL_ (some 120) rfl rfl Tryz.func67 (by kernel_rfl) rfl #[.slice A0 l0.length c0, .slice A1 l1.length c1, .slice none 0 0] rfl (by (try simp only [List.map_toArray, List.map_cons, List.map_nil]); first | done | rfl | (simp only [List.length_drop, List.length_take]; rfl)) ?_; (refine (cprime_Embed.calls kj89 _ _ l0 _ _ l1 _ _ ([] : List Int) t1715 t1716 _ ?side1 ?side2 ?side3 ?side4 ?side5 ?side6 A96.out).mono ?_); (case side1 => repeat (first | exact (Kd.C_below HR0.out HB.out) | (with_reducible refine Kd.C_alloc ?_ _) | (with_reducible refine Kd.C_drewN ?_ _) | (with_reducible refine Kd.C_drew ?_))); (case side2 => exact HC0.out); (case side3 => repeat (first | exact (Kd.C_below HR1.out HB.out) | (with_reducible refine Kd.C_alloc ?_ _) | (with_reducible refine Kd.C_drewN ?_ _) | (with_reducible refine Kd.C_drew ?_))); (case side4 => exact HC1.out); (case side5 => exact Kd.C_nil _ _); (case side6 => exact Nat.le_refl _); rintro e w109 ⟨v1717, rfl, ho0, hb⟩; refine ⟨_, rfl, ?_⟩; have n0_ := Aside0.mk (Kd.R_elder' (by (with_reducible repeat (first | apply Kd.R_alloc | apply Kd.R_drewN | apply Kd.R_drew)); exact HO1713.out) (Kd.R_base ho0) hb); have n1_ := Aside0.mk (Kd.R_lower (Kd.R_new' ho0 (Kd.R_lt (by (with_reducible repeat (first | apply Kd.R_alloc | apply Kd.R_drewN | apply Kd.R_drew)); exact HO1713.out))) (below_size (by repeat (first | (with_reducible first | exact HB.out | apply below_alloc | apply pw_below_drewN | apply below_drew1) | exact HB.out)))); have n2_ := Aside0.mk (below_step (by repeat (first | (with_reducible first | exact HB.out | apply below_alloc | apply pw_below_drewN | apply below_drew1) | exact HB.out)) hb); clear HO1713; clear HB; have HO1713 := n0_; have HO1718 := n1_; have HB := n2_; clear n0_ n1_ n2_; (try clear hb); (try clear hb2); (try clear hk); (try clear hi); (try clear ho0)) | ((with_reducible refine gate_callee (f := 68) rfl ?_); refine goesL_ (some 126) rfl rfl Tryz.func68 (by kernel_rfl) rfl #[.slice A0 l0.length c0, .slice A1 l1.length c1, .slice none 0 0] rfl (by (try simp only [List.map_toArray, List.map_cons, List.map_nil]); first | done | rfl | (simp only [List.length_drop, List.length_take]; rfl)) ?_; (refine (cprime_Restrict.calls kj89 _ _ l0 _ _ l1 _ _ ([] : List Int) t1719 t1720 _ ?side1 ?side2 ?side3 ?side4 ?side5 ?side6 A97.out).mono ?_); (case side1 => repeat (first | exact (Kd.C_below HR0.out HB.out) | (with_reducible refine Kd.C_alloc ?_ _) | (with_reducible refine Kd.C_drewN ?_ _) | (with_reducible refine Kd.C_drew ?_))); (case side2 => exact HC0.out); (case side3 => repeat (first | exact (Kd.C_below HR1.out HB.out) | (with_reducible refine Kd.C_alloc ?_ _) | (with_reducible refine Kd.C_drewN ?_ _) | (with_reducible refine Kd.C_drew ?_))); (case side4 => exact HC1.out); (case side5 => exact Kd.C_nil _ _); (case side6 => exact Nat.le_refl _); rintro e w110 ⟨v1721, rfl, ho0, hb⟩; refine ⟨_, rfl, ?_⟩; have n0_ := Aside0.mk (Kd.R_elder' (by (with_reducible repeat (first | apply Kd.R_alloc | apply Kd.R_drewN | apply Kd.R_drew)); exact HO1713.out) (Kd.R_base ho0) hb); have n1_ := Aside0.mk (Kd.R_elder' (by (with_reducible repeat (first | apply Kd.R_alloc | apply Kd.R_drewN | apply Kd.R_drew)); exact HO1718.out) (Kd.R_base ho0) hb); have n2_ := Aside0.mk (Kd.R_lower (Kd.R_new' (Kd.R_new' ho0 (Kd.R_lt (by (with_reducible repeat (first | apply Kd.R_alloc | apply Kd.R_drewN | apply Kd.R_drew)); exact HO1713.out))) (Kd.R_lt (by (with_reducible repeat (first | apply Kd.R_alloc | apply Kd.R_drewN | apply Kd.R_drew)); exact HO1718.out))) (below_size (by repeat (first | (with_reducible first | exact HB.out | apply below_alloc | apply pw_below_drewN | apply below_drew1) | exact HB.out)))); have n3_ := Aside0.mk (below_step (by repeat (first | (with_reducible first | exact HB.out | apply below_alloc | apply pw_below_drewN | apply below_drew1) | exact HB.out)) hb); clear HO1713; clear HO1718; clear HB; have HO1713 := n0_; have HO1718 := n1_; have HO1722 := n2_; have HB := n3_; clear n0_ n1_ n2_ n3_; (try clear hb); (try clear hb2); (try clear hk); (try clear hi); (try clear ho0); obtain ⟨Ao111, co111, eo111⟩ := Kd.R_slice HO1713.out; subst eo111; obtain ⟨Ao112, co112, eo112⟩ := Kd.R_slice HO1718.out; subst eo112; obtain ⟨Ao113, co113, eo113⟩ := Kd.R_slice HO1722.out; subst eo113))
                            go_ret
                            exact ⟨by first | rfl | (simp [errW_none, errW_some] <;> rfl) | (simp [*, errW_none, errW_some] <;> rfl), by repeat (first | (with_reducible first | exact HB.out | apply below_alloc | apply pw_below_drewN | apply below_drew1) | exact HB.out)⟩
                        · rw [if_neg c101] at H
                          have c101b0 : (t1720 == x14_89) = false := beq_eq_false_iff_ne.mpr c101
                          have c101b1 : (t1720 != x14_89) = true := bne_iff_ne.mpr c101
                          exact absurd ((Option.some.inj H).trans hr) Bool.false_ne_true
                      · rw [if_neg c100] at H
                        have c100b0 : (t1716 == x14_89) = false := beq_eq_false_iff_ne.mpr c100
                        have c100b1 : (t1716 != x14_89) = true := bne_iff_ne.mpr c100
                        exact absurd ((Option.some.inj H).trans hr) Bool.false_ne_true
                    · rw [if_neg c99] at H
                      have c99b0 : (t1714 == x14_89) = false := beq_eq_false_iff_ne.mpr c99
                      have c99b1 : (t1714 != x14_89) = true := bne_iff_ne.mpr c99
                      exact absurd ((Option.some.inj H).trans hr) Bool.false_ne_true
                  · rw [if_neg c98] at H
                    have c98b0 : (t1710 == x14_89) = false := beq_eq_false_iff_ne.mpr c98
                    have c98b1 : (t1710 != x14_89) = true := bne_iff_ne.mpr c98
                    exact absurd ((Option.some.inj H).trans hr) Bool.false_ne_true
end Go.Proofs.YtccebdpjdpjgnaaGreatDoor.P
