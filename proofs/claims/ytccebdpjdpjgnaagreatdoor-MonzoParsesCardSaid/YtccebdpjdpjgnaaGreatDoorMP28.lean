/-
parts of the walks and of the plain laws: PfractionCheck PfractionSign Pmonzoexponent
-/
import Derived.Test.YtccebdpjdpjgnaaGreatDoorMP21
set_option linter.unusedVariables false
set_option linter.unusedSimpArgs false
section
namespace Go.Proofs.YtccebdpjdpjgnaaGreatDoor.P
open Go.RowKit Go.Proofs.YtccebdpjdpjgnaaGreatDoorW.PrintWords Go.Proofs.YtccebdpjdpjgnaaGreatDoorW.PrintLast Go.Proofs.YtccebdpjdpjgnaaGreatDoorW.PrintMore
attribute [local go_sem] max2_int min2_int max_two min_two max_three min_three max_four min_four
def fraction_Check.j0 : Nat → Bool → ByteArray → ByteArray → Option (Int)
 | 0, _, _, _ => none
 | k + 1, x3, x299000, x299001 => if x3 = true then (some 2) else ((whole_Sign.f x299001).bind fun t301 => (if t301 ≤ 0 then (some 2) else ((whole_Gcd.f k x299000 x299001).bind fun t302 => (if t302.toList = ([49] : List UInt8) then (some 0) else (some 2)))))
def fraction_Check.f (k : Nat) (a0_0 : ByteArray) (a0_1 : ByteArray) : Option (Int) := (whole_Check.f k a0_0).bind fun t299 => (if t299 = 0 then ((whole_Check.f k a0_1).bind fun t300 => (fraction_Check.j0 k (t300 != 0) a0_0 a0_1)) else (fraction_Check.j0 k (t299 != 0) a0_0 a0_1))
set_option maxHeartbeats 8000000 in
set_option maxRecDepth 100000 in
theorem fraction_Check.calls (k : Nat) (a0_0 : ByteArray) (a0_1 : ByteArray) (r : Int) (w : World) (hT : TabW w) (h : fraction_Check.f k a0_0 a0_1 = some r) :
  Calls Tryz.prog 98 #[.agg #[.string a0_0, .string a0_1]] w fun e w' => e = .returned (.int .i64 r) ∧ Below w.heap.size w w' := by
 have hu38 := Tryz.underlying38
 have HB := Aside0.mk (Below.refl w.heap.size w)
 have H : ((whole_Check.f k a0_0).bind fun t299 => (if t299 = 0 then ((whole_Check.f k a0_1).bind fun t300 => (fraction_Check.j0 k (t300 != 0) a0_0 a0_1)) else (fraction_Check.j0 k (t299 != 0) a0_0 a0_1))) = some r := h
 clear h
 replace H := Option.bind_eq_some_iff.mp H
 obtain ⟨t299, A20, H⟩ := H
 try dsimp only at H
 have A2 := Aside0.mk A20
 clear A20
 have HC3 := Aside0.mk H
 clear H
 go_enter Tryz.func98, Tryz.ntmps98
 go_upto_if 3 with (first | ((with_reducible refine gate_dst (N := 1) rfl ?_); refine box_event ?hg (N := 1) ?hd (cs := #[.string a0_0, .string a0_1]) (t := 38) ?hr ?_; (case hd => rfl); (case hg => rfl); (case hr => go_simp; try rfl); intro gb298 hg w4 hbox hb; have n0_ := Aside0.mk (below_step (by apply_rules [HB.out, below_alloc, pw_below_drewN, below_drew1]) hb); have n1_ := Aside0.mk (hbox); have n2_ := Aside0.mk ((by rw [hg]; exact (below_size (by apply_rules [HB.out, below_alloc, pw_below_drewN, below_drew1])) : w.heap.size ≤ gb298)); have n3_ := Aside0.mk ((by rw [hg]; exact (below_size (by apply_rules [HB.out, below_alloc, pw_below_drewN, below_drew1])) : w.heap.size ≤ gb298)); clear HB; have HB := n0_; have BK298 := n1_; have GW298 := n2_; have GE298 := n3_; clear n0_ n1_ n2_ n3_; clear hb hbox hg; have hcz5_0 : w4.cell? ⟨gb298, 0, none⟩ = some (.string a0_0) := (blk_cell BK298.out 0).trans rfl; have hcz5_1 : w4.cell? ⟨gb298, 1, none⟩ = some (.string a0_1) := (blk_cell BK298.out 1).trans rfl; have hfz5_0 := blk_frozen BK298.out 0; have hfz5_1 := blk_frozen BK298.out 1) | ((with_reducible refine gate_callee (f := 167) rfl ?_); refine goesK (some 6) Tryz.func167 [.string a0_0] rfl rfl ?_; (with_reducible refine (whole_Check.calls k a0_0 t299 _ A2.out).mono ?_); rintro e w6 ⟨rfl, hb⟩; refine ⟨_, rfl, ?_⟩; replace BK298 := Aside0.mk (blk_below (g := gb298) (o := .cells #[.string a0_0, .string a0_1] 38 (0, 0)) (by apply_rules [BK298.out, blk_drewN, blk_drew, blk_alloc]) hb); replace HB := Aside0.mk (below_step (by apply_rules [HB.out, below_alloc, pw_below_drewN, below_drew1, below_set, GE298.out]) hb); (try clear hb)))
 (try simp only [Act.put, List.setIfInBounds_toArray, List.set_cons_zero, List.set_cons_succ])
 go_cut [3] (fun v3 wc => ∃ (kq : Nat) (x3_2 : Bool), v3 = .bool x3_2 ∧ Aside0 (fraction_Check.j0 kq x3_2 a0_0 a0_1 = some r) ∧ Aside0 (kq ≤ k) ∧ Aside0 (wc.heap[gb298]? = some (.cells #[.string a0_0, .string a0_1] 38 (0, 0))) ∧ Aside0 (Below w.heap.size w wc))
 case first =>
  have H := HC3.out
  clear HC3
  by_cases c7 : t299 = 0
  ·rw [if_pos c7] at H
   have c7b0 : (t299 == 0) = true := beq_iff_eq.mpr c7
   have c7b1 : (t299 != 0) = false := bne_eq_false_iff_eq.mpr c7
   clear c7
   (first | rw [c7b0] | (simp only [i64_w, i32_w]; rw [c7b0]) | skip)
   replace H := Option.bind_eq_some_iff.mp H
   obtain ⟨t300, A80, H⟩ := H
   try dsimp only at H
   have A8 := Aside0.mk A80
   clear A80
   have H' := Aside0.mk H
   clear H
   have hcz9_0 : w6.cell? ⟨gb298, 0, none⟩ = some (.string a0_0) := (blk_cell BK298.out 0).trans rfl
   have hcz9_1 : w6.cell? ⟨gb298, 1, none⟩ = some (.string a0_1) := (blk_cell BK298.out 1).trans rfl
   have hfz9_0 := blk_frozen BK298.out 0
   have hfz9_1 := blk_frozen BK298.out 1
   go_wp2_with (first | ((with_reducible refine gate_callee (f := 167) rfl ?_); refine goesK (some 10) Tryz.func167 [.string a0_1] rfl rfl ?_; (with_reducible refine (whole_Check.calls k a0_1 t300 _ A8.out).mono ?_); rintro e w10 ⟨rfl, hb⟩; refine ⟨_, rfl, ?_⟩; replace BK298 := Aside0.mk (blk_below (g := gb298) (o := .cells #[.string a0_0, .string a0_1] 38 (0, 0)) (by apply_rules [BK298.out, blk_drewN, blk_drew, blk_alloc]) hb); replace HB := Aside0.mk (below_step (by apply_rules [HB.out, below_alloc, pw_below_drewN, below_drew1, below_set, GE298.out]) hb); (try clear hb)))
   go_meet
   case rel => exact ⟨_, ((t300 != 0)), (by first | rfl | (simp; done) | (simp [*]; done)), H', ⟨by first | omega | exact Nat.le_refl _⟩, ⟨by apply_rules [BK298.out, blk_drewN, blk_drew, blk_alloc]⟩, ⟨by apply_rules [HB.out, below_alloc, pw_below_drewN, below_drew1, below_set, GE298.out]⟩⟩
  ·rw [if_neg c7] at H
   have c7b0 : (t299 == 0) = false := beq_eq_false_iff_ne.mpr c7
   have c7b1 : (t299 != 0) = true := bne_iff_ne.mpr c7
   (first | rw [c7b0] | (simp only [i64_w, i32_w]; rw [c7b0]) | skip)
   have H' := Aside0.mk H
   clear H
   go_wp2
   go_meet
   case rel => exact ⟨_, ((t299 != 0)), (by first | rfl | (simp; done) | (simp [*]; done)), H', ⟨by first | omega | exact Nat.le_refl _⟩, ⟨by apply_rules [BK298.out, blk_drewN, blk_drew, blk_alloc]⟩, ⟨by apply_rules [HB.out, below_alloc, pw_below_drewN, below_drew1, below_set, GE298.out]⟩⟩
 case rest =>
  clear HC3
  obtain ⟨kq, x3_2, rfl, HA, HJ2, BK298, HB⟩ := hcut
  cases kq with
  | zero => exact absurd HA.out (by simp [fraction_Check.j0])
  | succ kj2 =>
   have H := HA.out
   clear HA
   simp only [fraction_Check.j0] at H
   by_cases c11 : x3_2 = true
   ·subst c11
    have H1 : (some 2) = some r := by rw [if_pos rfl] at H; exact H
    clear H
    have H := H1
    clear H1
    obtain rfl := Option.some.inj H
    go_wp2
    go_ret
    exact ⟨by first | rfl | simp [*], by apply_rules [HB.out, below_alloc, pw_below_drewN, below_drew1, below_set, GE298.out]⟩
   ·replace c11 := Bool.eq_false_iff.mpr c11
    subst c11
    have H1 : ((whole_Sign.f a0_1).bind fun t301 => (if t301 ≤ 0 then (some 2) else ((whole_Gcd.f kj2 a0_0 a0_1).bind fun t302 => (if t302.toList = ([49] : List UInt8) then (some 0) else (some 2))))) = some r := by rw [if_neg (show ¬ (false = true) by decide)] at H; exact H
    clear H
    have H := H1
    clear H1
    replace H := Option.bind_eq_some_iff.mp H
    obtain ⟨t301, A120, H⟩ := H
    try dsimp only at H
    have A12 := Aside0.mk A120
    clear A120
    by_cases c13 : t301 ≤ 0
    ·rw [if_pos c13] at H
     have c13b0 : decide (t301 ≤ 0) = true := decide_eq_true c13
     clear c13
     obtain rfl := Option.some.inj H
     have hcz14_0 : wc.cell? ⟨gb298, 0, none⟩ = some (.string a0_0) := (blk_cell BK298.out 0).trans rfl
     have hcz14_1 : wc.cell? ⟨gb298, 1, none⟩ = some (.string a0_1) := (blk_cell BK298.out 1).trans rfl
     have hfz14_0 := blk_frozen BK298.out 0
     have hfz14_1 := blk_frozen BK298.out 1
     go_wp2_with (first | ((with_reducible refine gate_callee (f := 116) rfl ?_); refine goesK (some 15) Tryz.func116 [.string a0_1] rfl rfl ?_; (with_reducible refine (whole_Sign.calls a0_1 t301 _ A12.out).mono ?_); rintro e w' ⟨rfl, ⟨nd, rfl⟩⟩; refine ⟨_, rfl, ?_⟩))
     go_ret
     exact ⟨by first | rfl | simp [*], by apply_rules [HB.out, below_alloc, pw_below_drewN, below_drew1, below_set, GE298.out]⟩
    ·rw [if_neg c13] at H
     have c13b0 : decide (t301 ≤ 0) = false := decide_eq_false c13
     clear c13
     replace H := Option.bind_eq_some_iff.mp H
     obtain ⟨t302, A150, H⟩ := H
     try dsimp only at H
     have A15 := Aside0.mk A150
     clear A150
     by_cases c16 : t302.toList = ([49] : List UInt8)
     ·rw [if_pos c16] at H
      have c16b0 : (t302.toList == ([49] : List UInt8)) = true := beq_iff_eq.mpr c16
      have c16b1 : (t302.toList != ([49] : List UInt8)) = false := bne_eq_false_iff_eq.mpr c16
      clear c16
      obtain rfl := Option.some.inj H
      have hcz17_0 : wc.cell? ⟨gb298, 0, none⟩ = some (.string a0_0) := (blk_cell BK298.out 0).trans rfl
      have hcz17_1 : wc.cell? ⟨gb298, 1, none⟩ = some (.string a0_1) := (blk_cell BK298.out 1).trans rfl
      have hfz17_0 := blk_frozen BK298.out 0
      have hfz17_1 := blk_frozen BK298.out 1
      go_wp2_with (first | ((with_reducible refine gate_callee (f := 116) rfl ?_); refine goesK (some 15) Tryz.func116 [.string a0_1] rfl rfl ?_; (with_reducible refine (whole_Sign.calls a0_1 t301 _ A12.out).mono ?_); rintro e w' ⟨rfl, ⟨nd, rfl⟩⟩; refine ⟨_, rfl, ?_⟩) | ((with_reducible refine gate_callee (f := 168) rfl ?_); refine goesK (some 21) Tryz.func168 [.string a0_0, .string a0_1] rfl rfl ?_; (with_reducible refine (whole_Gcd.calls kj2 a0_0 a0_1 t302 _ ?side1 A15.out).mono ?_); (case side1 => refine TabW.below hT ?_; apply_rules [HB.out, below_alloc, pw_below_drewN, below_drew1, below_set, GE298.out]); rintro e w18 ⟨rfl, hb⟩; refine ⟨_, rfl, ?_⟩; replace BK298 := Aside0.mk (blk_below (g := gb298) (o := .cells #[.string a0_0, .string a0_1] 38 (0, 0)) (by apply_rules [BK298.out, blk_drewN, blk_drew, blk_alloc]) hb); replace HB := Aside0.mk (below_step (by apply_rules [HB.out, below_alloc, pw_below_drewN, below_drew1, below_set, GE298.out]) hb); (try clear hb)))
      go_ret
      exact ⟨by first | rfl | simp [*], by apply_rules [HB.out, below_alloc, pw_below_drewN, below_drew1, below_set, GE298.out]⟩
     ·rw [if_neg c16] at H
      have c16b0 : (t302.toList == ([49] : List UInt8)) = false := beq_eq_false_iff_ne.mpr c16
      have c16b1 : (t302.toList != ([49] : List UInt8)) = true := bne_iff_ne.mpr c16
      obtain rfl := Option.some.inj H
      have hcz19_0 : wc.cell? ⟨gb298, 0, none⟩ = some (.string a0_0) := (blk_cell BK298.out 0).trans rfl
      have hcz19_1 : wc.cell? ⟨gb298, 1, none⟩ = some (.string a0_1) := (blk_cell BK298.out 1).trans rfl
      have hfz19_0 := blk_frozen BK298.out 0
      have hfz19_1 := blk_frozen BK298.out 1
      go_wp2_with (first | ((with_reducible refine gate_callee (f := 116) rfl ?_); refine goesK (some 15) Tryz.func116 [.string a0_1] rfl rfl ?_; (with_reducible refine (whole_Sign.calls a0_1 t301 _ A12.out).mono ?_); rintro e w' ⟨rfl, ⟨nd, rfl⟩⟩; refine ⟨_, rfl, ?_⟩) | ((with_reducible refine gate_callee (f := 168) rfl ?_); refine goesK (some 21) Tryz.func168 [.string a0_0, .string a0_1] rfl rfl ?_; (with_reducible refine (whole_Gcd.calls kj2 a0_0 a0_1 t302 _ ?side1 A15.out).mono ?_); (case side1 => refine TabW.below hT ?_; apply_rules [HB.out, below_alloc, pw_below_drewN, below_drew1, below_set, GE298.out]); rintro e w20 ⟨rfl, hb⟩; refine ⟨_, rfl, ?_⟩; replace BK298 := Aside0.mk (blk_below (g := gb298) (o := .cells #[.string a0_0, .string a0_1] 38 (0, 0)) (by apply_rules [BK298.out, blk_drewN, blk_drew, blk_alloc]) hb); replace HB := Aside0.mk (below_step (by apply_rules [HB.out, below_alloc, pw_below_drewN, below_drew1, below_set, GE298.out]) hb); (try clear hb)))
      go_ret
      exact ⟨by first | rfl | simp [*], by apply_rules [HB.out, below_alloc, pw_below_drewN, below_drew1, below_set, GE298.out]⟩
def fraction_Sign.f (a0_0 : ByteArray) (a0_1 : ByteArray) : Option (Int) := (whole_Sign.f a0_0).bind fun t304 => (some t304)
set_option maxHeartbeats 8000000 in
set_option maxRecDepth 100000 in
theorem fraction_Sign.calls (a0_0 : ByteArray) (a0_1 : ByteArray) (r : Int) (w : World) (h : fraction_Sign.f a0_0 a0_1 = some r) :
  Calls Tryz.prog 99 #[.agg #[.string a0_0, .string a0_1]] w fun e w' => e = .returned (.int .i64 r) ∧ Below w.heap.size w w' := by
 have hu38 := Tryz.underlying38
 have HB := Aside0.mk (Below.refl w.heap.size w)
 have H : ((whole_Sign.f a0_0).bind fun t304 => (some t304)) = some r := h
 clear h
 replace H := Option.bind_eq_some_iff.mp H
 obtain ⟨t304, A20, H⟩ := H
 try dsimp only at H
 have A2 := Aside0.mk A20
 clear A20
 obtain rfl := Option.some.inj H
 go_enter Tryz.func99, Tryz.ntmps99
 go_wp2_with (first | ((with_reducible refine gate_dst (N := 1) rfl ?_); refine box_event ?hg (N := 1) ?hd (cs := #[.string a0_0, .string a0_1]) (t := 38) ?hr ?_; (case hd => rfl); (case hg => rfl); (case hr => go_simp; try rfl); intro gb303 hg w3 hbox hb; have n0_ := Aside0.mk (below_step (by apply_rules [HB.out, below_alloc, pw_below_drewN, below_drew1]) hb); have n1_ := Aside0.mk (hbox); have n2_ := Aside0.mk ((by rw [hg]; exact (below_size (by apply_rules [HB.out, below_alloc, pw_below_drewN, below_drew1])) : w.heap.size ≤ gb303)); have n3_ := Aside0.mk ((by rw [hg]; exact (below_size (by apply_rules [HB.out, below_alloc, pw_below_drewN, below_drew1])) : w.heap.size ≤ gb303)); clear HB; have HB := n0_; have BK303 := n1_; have GW303 := n2_; have GE303 := n3_; clear n0_ n1_ n2_ n3_; clear hb hbox hg; have hcz4_0 : w3.cell? ⟨gb303, 0, none⟩ = some (.string a0_0) := (blk_cell BK303.out 0).trans rfl; have hcz4_1 : w3.cell? ⟨gb303, 1, none⟩ = some (.string a0_1) := (blk_cell BK303.out 1).trans rfl; have hfz4_0 := blk_frozen BK303.out 0; have hfz4_1 := blk_frozen BK303.out 1) | ((with_reducible refine gate_callee (f := 116) rfl ?_); refine goesK (some 5) Tryz.func116 [.string a0_0] rfl rfl ?_; (with_reducible refine (whole_Sign.calls a0_0 t304 _ A2.out).mono ?_); rintro e w' ⟨rfl, ⟨nd, rfl⟩⟩; refine ⟨_, rfl, ?_⟩))
 go_ret
 exact ⟨by first | rfl | simp [*], by apply_rules [HB.out, below_alloc, pw_below_drewN, below_drew1, below_set, GE303.out]⟩
def monzo_exponent.l0 : Nat → ByteArray → Int → Int → Option (ByteArray × Int)
 | 0, _, _, _ => none
 | k + 1, x0, x1, x5 => (whole_Of.f x1).bind fun t385 => ((whole_DivMod.f k x0 t385).bind fun bt386 => (if bt386.2.1.toList = ([48] : List UInt8) then (monzo_exponent.l0 k bt386.1 x1 (wrap64 (x5 + 1))) else (some (x0, x5))))
def monzo_exponent.f (k : Nat) (a0 : ByteArray) (a1 : Int) : Option (ByteArray × Int) := monzo_exponent.l0 k a0 a1 0
set_option maxHeartbeats 8000000 in
set_option maxRecDepth 100000 in
theorem monzo_exponent.calls (k : Nat) (a0 : ByteArray) (a1 : Int) (r1 : ByteArray) (r2 : Int) (w : World) (hT : TabW w) (h : monzo_exponent.f k a0 a1 = some (r1, r2)) :
  Calls Tryz.prog 100 #[.string a0, .int .i64 a1] w fun e w' => e = .returned (.tuple #[.string r1, .int .i64 r2]) ∧ Below w.heap.size w w' := by
 have HB := Aside0.mk (Below.refl w.heap.size w)
 have H : (monzo_exponent.l0 k a0 a1 0) = some (r1, r2) := h
 clear h
 have H' := Aside0.mk H
 clear H
 go_enter Tryz.func100, Tryz.ntmps100
 go_wp2
 go_loopg [0, 5] k (fun kq v0 v5 w' => ∃ (x0_1 : ByteArray) (x5_1 : Int), v0 = .string x0_1 ∧ v5 = .int .i64 x5_1 ∧ Aside0 (monzo_exponent.l0 kq x0_1 a1 x5_1 = some (r1, r2)) ∧ Aside0 (kq ≤ k) ∧ Aside0 (Below w.heap.size w w'))
 case atStart => exact ⟨(a0), (0), (by first | rfl | (simp; done) | (simp [*]; done)), (by first | rfl | (simp; done) | (simp [*]; done)), H', ⟨Nat.le_refl _⟩, ⟨by apply_rules [HB.out, below_alloc, pw_below_drewN, below_drew1]⟩⟩
 case round =>
  clear H'
  obtain ⟨x0_1, x5_1, rfl, rfl, HA, HK1, HB⟩ := hrel
  cases gk with
  | zero => exact absurd HA.out (by simp [monzo_exponent.l0])
  | succ k1 =>
   have H := HA.out
   clear HA
   simp only [monzo_exponent.l0] at H
   replace H := Option.bind_eq_some_iff.mp H
   obtain ⟨t385, A30, H⟩ := H
   try dsimp only at H
   have A3 := Aside0.mk A30
   clear A30
   replace H := Option.bind_eq_some_iff.mp H
   obtain ⟨⟨t386, t387, t388⟩, A40, H⟩ := H
   try dsimp only at H
   have A4 := Aside0.mk A40
   clear A40
   by_cases c5 : t387.toList = ([48] : List UInt8)
   ·rw [if_pos c5] at H
    have c5b0 : (t387.toList == ([48] : List UInt8)) = true := beq_iff_eq.mpr c5
    have c5b1 : (t387.toList != ([48] : List UInt8)) = false := bne_eq_false_iff_eq.mpr c5
    clear c5
    have H' := Aside0.mk H
    clear H
    go_wp2_with (first | ((with_reducible refine gate_callee (f := 104) rfl ?_); refine goesK (some 12) Tryz.func104 [.int .i64 a1] rfl rfl ?_; (with_reducible refine (whole_Of.calls a1 t385 _ ?side1 A3.out).mono ?_); (case side1 => refine TabW.below hT ?_; apply_rules [HB.out, below_alloc, pw_below_drewN, below_drew1]); rintro e w6 ⟨rfl, hb⟩; refine ⟨_, rfl, ?_⟩; replace HB := Aside0.mk (below_step (by apply_rules [HB.out, below_alloc, pw_below_drewN, below_drew1]) hb); (try clear hb)) | ((with_reducible refine gate_callee (f := 122) rfl ?_); refine goesK (some 13) Tryz.func122 [.string x0_1, .string t385] rfl rfl ?_; (with_reducible refine (whole_DivMod.calls k1 x0_1 t385 t386 t387 t388 _ ?side1 A4.out).mono ?_); (case side1 => refine TabW.below hT ?_; apply_rules [HB.out, below_alloc, pw_below_drewN, below_drew1]); rintro e w7 ⟨rfl, hb⟩; refine ⟨_, rfl, ?_⟩; replace HB := Aside0.mk (below_step (by apply_rules [HB.out, below_alloc, pw_below_drewN, below_drew1]) hb); (try clear hb)))
    go_roundg k1
    case measure => have := HK1.out; omega
    case rel => exact ⟨(t386), (wrap64 (x5_1 + 1)), (by first | rfl | (simp; done) | (simp [*]; done)), (by first | rfl | (simp; done) | (simp [*]; done)), H', ⟨by have := HK1.out; omega⟩, ⟨by apply_rules [HB.out, below_alloc, pw_below_drewN, below_drew1]⟩⟩
   ·rw [if_neg c5] at H
    have c5b0 : (t387.toList == ([48] : List UInt8)) = false := beq_eq_false_iff_ne.mpr c5
    have c5b1 : (t387.toList != ([48] : List UInt8)) = true := bne_iff_ne.mpr c5
    simp only [Option.some.injEq, Prod.mk.injEq] at H
    obtain ⟨rfl, rfl⟩ := H
    go_wp2_with (first | ((with_reducible refine gate_callee (f := 104) rfl ?_); refine goesK (some 12) Tryz.func104 [.int .i64 a1] rfl rfl ?_; (with_reducible refine (whole_Of.calls a1 t385 _ ?side1 A3.out).mono ?_); (case side1 => refine TabW.below hT ?_; apply_rules [HB.out, below_alloc, pw_below_drewN, below_drew1]); rintro e w8 ⟨rfl, hb⟩; refine ⟨_, rfl, ?_⟩; replace HB := Aside0.mk (below_step (by apply_rules [HB.out, below_alloc, pw_below_drewN, below_drew1]) hb); (try clear hb)) | ((with_reducible refine gate_callee (f := 122) rfl ?_); refine goesK (some 13) Tryz.func122 [.string x0_1, .string t385] rfl rfl ?_; (with_reducible refine (whole_DivMod.calls k1 x0_1 t385 t386 t387 t388 _ ?side1 A4.out).mono ?_); (case side1 => refine TabW.below hT ?_; apply_rules [HB.out, below_alloc, pw_below_drewN, below_drew1]); rintro e w9 ⟨rfl, hb⟩; refine ⟨_, rfl, ?_⟩; replace HB := Aside0.mk (below_step (by apply_rules [HB.out, below_alloc, pw_below_drewN, below_drew1]) hb); (try clear hb)))
    go_ret2
    exact ⟨by first | rfl | simp [*], by apply_rules [HB.out, below_alloc, pw_below_drewN, below_drew1]⟩
end Go.Proofs.YtccebdpjdpjgnaaGreatDoor.P
end
