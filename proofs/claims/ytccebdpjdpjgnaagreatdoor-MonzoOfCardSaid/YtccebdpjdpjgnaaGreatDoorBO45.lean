/-
words of the walks
-/
import Derived.Test.YtccebdpjdpjgnaaGreatDoorBO06
import Derived.Test.YtccebdpjdpjgnaaGreatDoorBO35
import Derived.Test.YtccebdpjdpjgnaaGreatDoorBO30
import Derived.Test.YtccebdpjdpjgnaaGreatDoorBO39
import Derived.Test.YtccebdpjdpjgnaaGreatDoorBO40
import Derived.Test.YtccebdpjdpjgnaaGreatDoorBO43
import Derived.Test.YtccebdpjdpjgnaaGreatDoorBO44
set_option linter.unusedVariables false
set_option linter.unusedSimpArgs false
namespace Go.Proofs.YtccebdpjdpjgnaaGreatDoor.P
open Go.RowKit Go.Proofs.YtccebdpjdpjgnaaGreatDoorW.PrintWords Go.Proofs.YtccebdpjdpjgnaaGreatDoorW.PrintLast Go.Proofs.YtccebdpjdpjgnaaGreatDoorW.PrintMore
attribute [local go_sem] max2_int min2_int max_two min_two max_three min_three max_four min_four
set_option linter.unusedVariables false
set_option linter.unusedSimpArgs false
def schismalaw12_MonzoOf.j0 : Nat → Int → Bool → ByteArray → ByteArray → Option (Bool)
 | 0, _, _, _, _ => none
 | k + 1, x0, x26, x562000, x562001 => if x26 = true then ((schismalaw12_known.f k).bind fun t563 => (some t563)) else ((schismalaw12_Primes.f x0).bind fun t564 => ((monzo_Of.f k t564 x562000 x562001).bind fun bt567 => ((schismaref04_Parts.f k x562000 x562001).bind fun bt571 => (if bt571.2.2 = true then ((schismalaw12_of.f k t564 bt571.1 bt571.2.1).bind fun bt574 => ((schismalaw12_Same.f k bt567.1 bt574.1).bind fun t578 => (if t578 = true then (some (bt567.2 == bt574.2)) else (some false)))) else (if (bt567.1.length : Int) = 0 then (some (bt567.2 == 2)) else (some false))))))
def schismalaw12_MonzoOf.f (k : Nat) (a0 : Int) (a1_0 : ByteArray) (a1_1 : ByteArray) : Option (Bool) := (schismalaw12_known.f k).bind fun t562 => (if t562 = true then (if (a1_0.size : Int) > 13 then (schismalaw12_MonzoOf.j0 k a0 true a1_0 a1_1) else (schismalaw12_MonzoOf.j0 k a0 (decide ((a1_1.size : Int) > 13)) a1_0 a1_1)) else (schismalaw12_MonzoOf.j0 k a0 true a1_0 a1_1))
theorem schismalaw12_MonzoOf.mono_l : ∀ k, (∀ y0 y1 y2 y3, LeO (schismalaw12_MonzoOf.j0 k y0 y1 y2 y3) (schismalaw12_MonzoOf.j0 (k + 1) y0 y1 y2 y3))
 | 0 => fun _ _ _ _ r h => by simp [schismalaw12_MonzoOf.j0] at h
 | k + 1 => by
  have ih0 := schismalaw12_MonzoOf.mono_l k
  ·intro y0 y1 y2 y3
   unfold schismalaw12_MonzoOf.j0
   repeat' first
   | (with_reducible exact ih0 _ _ _ _)
   | (with_reducible exact monzo_Of.mono _ _ _ _)
   | (with_reducible exact schismalaw12_Same.mono _ _ _)
   | (with_reducible exact schismalaw12_known.mono _)
   | (with_reducible exact schismalaw12_of.mono _ _ _ _)
   | (with_reducible exact schismaref04_Parts.mono _ _ _)
   | (with_reducible exact LeO.refl _)
   | (with_reducible exact LeO.none _)
   | (with_reducible refine LeO.ite ?_ ?_)
   | (with_reducible refine LeO.bind ?_ (fun _ => ?_))
   | exact ih0 _ _ _ _
   | exact monzo_Of.mono _ _ _ _
   | exact schismalaw12_Same.mono _ _ _
   | exact schismalaw12_known.mono _
   | exact schismalaw12_of.mono _ _ _ _
   | exact schismaref04_Parts.mono _ _ _
   | exact LeO.none _
   | refine LeO.ite ?_ ?_
   | refine LeO.bind ?_ (fun _ => ?_)
theorem schismalaw12_MonzoOf.mono : ∀ a0 a1 a2 k, LeO (schismalaw12_MonzoOf.f k a0 a1 a2) (schismalaw12_MonzoOf.f (k + 1) a0 a1 a2) := by
 intro a0 a1 a2 k
 have ih0 := schismalaw12_MonzoOf.mono_l k
 unfold schismalaw12_MonzoOf.f
 repeat' first
   | (with_reducible exact ih0 _ _ _ _)
   | (with_reducible exact monzo_Of.mono _ _ _ _)
   | (with_reducible exact schismalaw12_Same.mono _ _ _)
   | (with_reducible exact schismalaw12_known.mono _)
   | (with_reducible exact schismalaw12_of.mono _ _ _ _)
   | (with_reducible exact schismaref04_Parts.mono _ _ _)
   | (with_reducible exact LeO.refl _)
   | (with_reducible exact LeO.none _)
   | (with_reducible refine LeO.ite ?_ ?_)
   | (with_reducible refine LeO.bind ?_ (fun _ => ?_))
   | exact ih0 _ _ _ _
   | exact monzo_Of.mono _ _ _ _
   | exact schismalaw12_Same.mono _ _ _
   | exact schismalaw12_known.mono _
   | exact schismalaw12_of.mono _ _ _ _
   | exact schismaref04_Parts.mono _ _ _
   | exact LeO.none _
   | refine LeO.ite ?_ ?_
   | refine LeO.bind ?_ (fun _ => ?_)
set_option maxHeartbeats 8000000 in
set_option maxRecDepth 100000 in
theorem schismalaw12_MonzoOf.calls (k : Nat) (a0 : Int) (a1_0 : ByteArray) (a1_1 : ByteArray) (r : Bool) (w : World) (hT : TabW w) (h : schismalaw12_MonzoOf.f k a0 a1_0 a1_1 = some r) (hr : r = true) (hk : ∀ k, schismalaw12_known.f k ≠ some false) :
  Calls Tryz.prog 4 #[.int .u8 a0, .agg #[.string a1_0, .string a1_1]] w fun e w' => e = .returned (.bool r) ∧ Below w.heap.size w w' := by
 have hu38 := Tryz.underlying38
 have HB := Aside0.mk (Below.refl w.heap.size w)
 have H : ((schismalaw12_known.f k).bind fun t562 => (if t562 = true then (if (a1_0.size : Int) > 13 then (schismalaw12_MonzoOf.j0 k a0 true a1_0 a1_1) else (schismalaw12_MonzoOf.j0 k a0 (decide ((a1_1.size : Int) > 13)) a1_0 a1_1)) else (schismalaw12_MonzoOf.j0 k a0 true a1_0 a1_1))) = some r := h
 clear h
 have HC3 := Aside0.mk H
 clear H
 go_enter Tryz.func4, Tryz.ntmps4
 go_upto_region 1 with (first | ((with_reducible refine gate_dst (N := 3) rfl ?_); (try (refine gate_guard (by rfl) ?_; dsimp only)); refine box_event ?hg (N := 3) ?hd (cs := #[.string a1_0, .string a1_1]) (t := 38) ?hr ?_; (case hd => rfl); (case hg => rfl); (case hr => go_simp; try rfl); intro gb561 hg w4 hbox hb; have n0_ := Aside0.mk (below_step (by apply_rules [HB.out, below_alloc, pw_below_drewN, below_drew1]) hb); have n1_ := Aside0.mk (hbox); have n2_ := Aside0.mk ((by rw [hg]; exact (below_size (by apply_rules [HB.out, below_alloc, pw_below_drewN, below_drew1])) : w.heap.size ≤ gb561)); have n3_ := Aside0.mk ((by rw [hg]; exact (below_size (by apply_rules [HB.out, below_alloc, pw_below_drewN, below_drew1])) : w.heap.size ≤ gb561)); clear HB; have HB := n0_; have BK561 := n1_; have GW561 := n2_; have GE561 := n3_; clear n0_ n1_ n2_ n3_; clear hb hbox hg))
 (try simp only [Act.put, List.setIfInBounds_toArray, List.set_cons_zero, List.set_cons_succ])
 go_cut [26] (fun v26 wc => ∃ (kq : Nat) (x26_2 : Bool), v26 = .bool x26_2 ∧ Aside0 (schismalaw12_MonzoOf.j0 kq a0 x26_2 a1_0 a1_1 = some r) ∧ Aside0 (kq ≤ k) ∧ Aside0 (wc.heap[gb561]? = some (.cells #[.string a1_0, .string a1_1] 38 (0, 0))) ∧ Aside0 (Below w.heap.size w wc))
 case first =>
  have H := HC3.out
  clear HC3
  replace H := Option.bind_eq_some_iff.mp H
  obtain ⟨t562, A50, H⟩ := H
  try dsimp only at H
  have A5 := Aside0.mk A50
  clear A50
  by_cases c6 : t562 = true
  ·subst c6
   have H1 : (if (a1_0.size : Int) > 13 then (schismalaw12_MonzoOf.j0 k a0 true a1_0 a1_1) else (schismalaw12_MonzoOf.j0 k a0 (decide ((a1_1.size : Int) > 13)) a1_0 a1_1)) = some r := by rw [if_pos rfl] at H; exact H
   clear H
   have H := H1
   clear H1
   by_cases c7 : (a1_0.size : Int) > 13
   ·rw [if_pos c7] at H
    have c7b0 : decide (13 < (a1_0.size : Int)) = true := decide_eq_true c7
    have c7b1 : decide (13 < a1_0.size) = true := decide_eq_true (by omega)
    clear c7
    (first | rw [c7b0] | (simp only [i64_w, i32_w]; rw [c7b0]) | skip)
    have H' := Aside0.mk H
    clear H
    go_wp2_with (first | ((with_reducible refine gate_callee (f := 22) rfl ?_); refine goesK (some 13) Tryz.func22 [] rfl rfl ?_; (with_reducible refine (schismalaw12_known.calls k  true _ ?side1 A5.out (by first | rfl | assumption)).mono ?_); (case side1 => refine TabW.below hT ?_; apply_rules [HB.out, below_alloc, pw_below_drewN, below_drew1, below_set, GE561.out]); rintro e w8 ⟨rfl, hb⟩; refine ⟨_, rfl, ?_⟩; replace BK561 := Aside0.mk (blk_below (g := gb561) (o := .cells #[.string a1_0, .string a1_1] 38 (0, 0)) (by apply_rules [BK561.out, blk_drewN, blk_drew, blk_alloc]) hb); replace HB := Aside0.mk (below_step (by apply_rules [HB.out, below_alloc, pw_below_drewN, below_drew1, below_set, GE561.out]) hb); (try clear hb); have hcz9_0 : w8.cell? ⟨gb561, 0, none⟩ = some (.string a1_0) := (blk_cell BK561.out 0).trans rfl; have hcz9_1 : w8.cell? ⟨gb561, 1, none⟩ = some (.string a1_1) := (blk_cell BK561.out 1).trans rfl; have hfz9_0 := blk_frozen BK561.out 0; have hfz9_1 := blk_frozen BK561.out 1))
    go_meet
    case rel => exact ⟨_, (true), (by first | rfl | (simp; done) | (simp [*]; done)), H', ⟨by first | omega | exact Nat.le_refl _⟩, ⟨by apply_rules [BK561.out, blk_drewN, blk_drew, blk_alloc]⟩, ⟨by apply_rules [HB.out, below_alloc, pw_below_drewN, below_drew1, below_set, GE561.out]⟩⟩
   ·rw [if_neg c7] at H
    have c7b0 : decide (13 < (a1_0.size : Int)) = false := decide_eq_false c7
    have c7b1 : decide (13 < a1_0.size) = false := decide_eq_false (by omega)
    clear c7
    (first | rw [c7b0] | (simp only [i64_w, i32_w]; rw [c7b0]) | skip)
    have H' := Aside0.mk H
    clear H
    go_wp2_with (first | ((with_reducible refine gate_callee (f := 22) rfl ?_); refine goesK (some 13) Tryz.func22 [] rfl rfl ?_; (with_reducible refine (schismalaw12_known.calls k  true _ ?side1 A5.out (by first | rfl | assumption)).mono ?_); (case side1 => refine TabW.below hT ?_; apply_rules [HB.out, below_alloc, pw_below_drewN, below_drew1, below_set, GE561.out]); rintro e w10 ⟨rfl, hb⟩; refine ⟨_, rfl, ?_⟩; replace BK561 := Aside0.mk (blk_below (g := gb561) (o := .cells #[.string a1_0, .string a1_1] 38 (0, 0)) (by apply_rules [BK561.out, blk_drewN, blk_drew, blk_alloc]) hb); replace HB := Aside0.mk (below_step (by apply_rules [HB.out, below_alloc, pw_below_drewN, below_drew1, below_set, GE561.out]) hb); (try clear hb); have hcz11_0 : w10.cell? ⟨gb561, 0, none⟩ = some (.string a1_0) := (blk_cell BK561.out 0).trans rfl; have hcz11_1 : w10.cell? ⟨gb561, 1, none⟩ = some (.string a1_1) := (blk_cell BK561.out 1).trans rfl; have hfz11_0 := blk_frozen BK561.out 0; have hfz11_1 := blk_frozen BK561.out 1))
    go_meet
    case rel => exact ⟨_, (decide ((a1_1.size : Int) > 13)), (by first | rfl | (simp; done) | (simp [*]; done)), H', ⟨by first | omega | exact Nat.le_refl _⟩, ⟨by apply_rules [BK561.out, blk_drewN, blk_drew, blk_alloc]⟩, ⟨by apply_rules [HB.out, below_alloc, pw_below_drewN, below_drew1, below_set, GE561.out]⟩⟩
  ·replace c6 := Bool.eq_false_iff.mpr c6
   subst c6
   have H1 : (schismalaw12_MonzoOf.j0 k a0 true a1_0 a1_1) = some r := by rw [if_neg (show ¬ (false = true) by decide)] at H; exact H
   clear H
   have H := H1
   clear H1
   have H' := Aside0.mk H
   clear H
   exact absurd A5.out (hk _)
 case rest =>
  clear HC3
  obtain ⟨kq, x26_2, rfl, HA, HJ2, BK561, HB⟩ := hcut
  cases kq with
  | zero => exact absurd HA.out (by simp [schismalaw12_MonzoOf.j0])
  | succ kj2 =>
   have H := HA.out
   clear HA
   simp only [schismalaw12_MonzoOf.j0] at H
   by_cases c13 : x26_2 = true
   ·subst c13
    have H1 : ((schismalaw12_known.f kj2).bind fun t563 => (some t563)) = some r := by rw [if_pos rfl] at H; exact H
    clear H
    have H := H1
    clear H1
    replace H := Option.bind_eq_some_iff.mp H
    obtain ⟨t563, A140, H⟩ := H
    try dsimp only at H
    have A14 := Aside0.mk A140
    clear A140
    obtain rfl := Option.some.inj H
    go_wp2_with (first | ((with_reducible refine gate_callee (f := 22) rfl ?_); refine goesK (some 27) Tryz.func22 [] rfl rfl ?_; (with_reducible refine (schismalaw12_known.calls kj2  t563 _ ?side1 A14.out (by first | rfl | assumption)).mono ?_); (case side1 => refine TabW.below hT ?_; apply_rules [HB.out, below_alloc, pw_below_drewN, below_drew1, below_set, GE561.out]); rintro e w15 ⟨rfl, hb⟩; refine ⟨_, rfl, ?_⟩; replace BK561 := Aside0.mk (blk_below (g := gb561) (o := .cells #[.string a1_0, .string a1_1] 38 (0, 0)) (by apply_rules [BK561.out, blk_drewN, blk_drew, blk_alloc]) hb); replace HB := Aside0.mk (below_step (by apply_rules [HB.out, below_alloc, pw_below_drewN, below_drew1, below_set, GE561.out]) hb); (try clear hb)))
    go_ret
    exact ⟨by first | rfl | simp [*], by apply_rules [HB.out, below_alloc, pw_below_drewN, below_drew1, below_set, GE561.out]⟩
   ·replace c13 := Bool.eq_false_iff.mpr c13
    subst c13
    have H1 : ((schismalaw12_Primes.f a0).bind fun t564 => ((monzo_Of.f kj2 t564 a1_0 a1_1).bind fun bt567 => ((schismaref04_Parts.f kj2 a1_0 a1_1).bind fun bt571 => (if bt571.2.2 = true then ((schismalaw12_of.f kj2 t564 bt571.1 bt571.2.1).bind fun bt574 => ((schismalaw12_Same.f kj2 bt567.1 bt574.1).bind fun t578 => (if t578 = true then (some (bt567.2 == bt574.2)) else (some false)))) else (if (bt567.1.length : Int) = 0 then (some (bt567.2 == 2)) else (some false)))))) = some r := by rw [if_neg (show ¬ (false = true) by decide)] at H; exact H
    clear H
    have H := H1
    clear H1
    replace H := Option.bind_eq_some_iff.mp H
    obtain ⟨t564, A160, H⟩ := H
    try dsimp only at H
    have A16 := Aside0.mk A160
    clear A160
    replace H := Option.bind_eq_some_iff.mp H
    obtain ⟨⟨t567, t570⟩, A170, H⟩ := H
    try dsimp only at H
    have A17 := Aside0.mk A170
    clear A170
    replace H := Option.bind_eq_some_iff.mp H
    obtain ⟨⟨t571, t572, t573⟩, A180, H⟩ := H
    try dsimp only at H
    have A18 := Aside0.mk A180
    clear A180
    by_cases c19 : t573 = true
    ·subst c19
     have H1 : ((schismalaw12_of.f kj2 t564 t571 t572).bind fun bt574 => ((schismalaw12_Same.f kj2 t567 bt574.1).bind fun t578 => (if t578 = true then (some (t570 == bt574.2)) else (some false)))) = some r := by rw [if_pos rfl] at H; exact H
     clear H
     have H := H1
     clear H1
     replace H := Option.bind_eq_some_iff.mp H
     obtain ⟨⟨t574, t575⟩, A200, H⟩ := H
     try dsimp only at H
     have A20 := Aside0.mk A200
     clear A200
     replace H := Option.bind_eq_some_iff.mp H
     obtain ⟨t578, A210, H⟩ := H
     try dsimp only at H
     have A21 := Aside0.mk A210
     clear A210
     by_cases c22 : t578 = true
     ·subst c22
      have H1 : (some (t570 == t575)) = some r := by rw [if_pos rfl] at H; exact H
      clear H
      have H := H1
      clear H1
      obtain rfl := Option.some.inj H
      go_wp2_with (first | ((with_reducible refine gate_callee (f := 30) rfl ?_); refine goesK (some 29) Tryz.func30 [.int .u8 a0] rfl rfl ?_; (with_reducible refine (schismalaw12_Primes.calls a0 t564 _ A16.out).mono ?_); rintro e w23 ⟨v565, rfl, ho0, hb⟩; refine ⟨_, rfl, ?_⟩; have HO566 := Aside0.mk (Kd.V_lower (Kd.V_mono (ok' := fun k_ => k_ ≠ gb561) ho0 (fun k_ hk_ => (Kd.freshB (g := gb561) (o := .cells #[.string a1_0, .string a1_1] 38 (0, 0)) (by apply_rules [BK561.out, blk_drewN, blk_drew, blk_alloc]) k_ hk_))) (below_size (by apply_rules [HB.out, below_alloc, pw_below_drewN, below_drew1, below_set, GE561.out]))); replace BK561 := Aside0.mk (blk_below (g := gb561) (o := .cells #[.string a1_0, .string a1_1] 38 (0, 0)) (by apply_rules [BK561.out, blk_drewN, blk_drew, blk_alloc]) hb); replace HB := Aside0.mk (below_step (by apply_rules [HB.out, below_alloc, pw_below_drewN, below_drew1, below_set, GE561.out]) hb); (try clear hb); (try clear ho0); have hcz24_0 : w23.cell? ⟨gb561, 0, none⟩ = some (.string a1_0) := (blk_cell BK561.out 0).trans rfl; have hcz24_1 : w23.cell? ⟨gb561, 1, none⟩ = some (.string a1_1) := (blk_cell BK561.out 1).trans rfl; have hfz24_0 := blk_frozen BK561.out 0; have hfz24_1 := blk_frozen BK561.out 1; obtain ⟨Ao25, co25, eo25⟩ := Kd.V_slice HO566.out; subst eo25) | ((with_reducible refine gate_callee (f := 31) rfl ?_); refine goesK (some 33) Tryz.func31 [.slice Ao25 t564.length co25, .agg #[.string a1_0, .string a1_1]] rfl rfl ?_; (with_reducible refine (monzo_Of.calls kj2 _ _ t564 a1_0 a1_1 t567 t570 _ ?side1 ?side2 ?side3 A17.out).mono ?_); (case side1 => refine TabW.below hT ?_; apply_rules [HB.out, below_alloc, pw_below_drewN, below_drew1, below_set, GE561.out]); (case side2 => apply_rules [(Kd.V_reads' HO566.out).2.2, Kd.C_alloc, Kd.C_drewN, Kd.C_drew]); (case side3 => exact (Kd.V_reads' HO566.out).2.1); rintro e w26 ⟨v568, rfl, ho0, hb⟩; refine ⟨_, rfl, ?_⟩; replace HO566 := Aside0.mk (Kd.V_below (by apply_rules [HO566.out, Kd.V_alloc, Kd.V_drewN, Kd.V_drew]) hb); have HO569 := Aside0.mk (Kd.V_lower (Kd.V_mono (ok' := fun k_ => k_ ≠ gb561) ho0 (fun k_ hk_ => (Kd.freshB (g := gb561) (o := .cells #[.string a1_0, .string a1_1] 38 (0, 0)) (by apply_rules [BK561.out, blk_drewN, blk_drew, blk_alloc]) k_ hk_))) (below_size (by apply_rules [HB.out, below_alloc, pw_below_drewN, below_drew1, below_set, GE561.out]))); replace BK561 := Aside0.mk (blk_below (g := gb561) (o := .cells #[.string a1_0, .string a1_1] 38 (0, 0)) (by apply_rules [BK561.out, blk_drewN, blk_drew, blk_alloc]) hb); replace HB := Aside0.mk (below_step (by apply_rules [HB.out, below_alloc, pw_below_drewN, below_drew1, below_set, GE561.out]) hb); (try clear hb); (try clear ho0); have hcz27_0 : w26.cell? ⟨gb561, 0, none⟩ = some (.string a1_0) := (blk_cell BK561.out 0).trans rfl; have hcz27_1 : w26.cell? ⟨gb561, 1, none⟩ = some (.string a1_1) := (blk_cell BK561.out 1).trans rfl; have hfz27_0 := blk_frozen BK561.out 0; have hfz27_1 := blk_frozen BK561.out 1) | ((with_reducible refine gate_callee (f := 32) rfl ?_); refine goesK (some 38) Tryz.func32 [.agg #[.string a1_0, .string a1_1]] rfl rfl ?_; (with_reducible refine (schismaref04_Parts.calls kj2 a1_0 a1_1 t571 t572 true _ A18.out).mono ?_); rintro e w28 ⟨rfl, hb⟩; refine ⟨_, rfl, ?_⟩; replace HO566 := Aside0.mk (Kd.V_below (by apply_rules [HO566.out, Kd.V_alloc, Kd.V_drewN, Kd.V_drew]) hb); replace HO569 := Aside0.mk (Kd.V_below (by apply_rules [HO569.out, Kd.V_alloc, Kd.V_drewN, Kd.V_drew]) hb); replace BK561 := Aside0.mk (blk_below (g := gb561) (o := .cells #[.string a1_0, .string a1_1] 38 (0, 0)) (by apply_rules [BK561.out, blk_drewN, blk_drew, blk_alloc]) hb); replace HB := Aside0.mk (below_step (by apply_rules [HB.out, below_alloc, pw_below_drewN, below_drew1, below_set, GE561.out]) hb); (try clear hb)) | ((with_reducible refine gate_callee (f := 33) rfl ?_); refine goesK (some 55) Tryz.func33 [.slice Ao25 t564.length co25, .int .i64 t571, .int .i64 t572] rfl rfl ?_; (with_reducible refine (schismalaw12_of.calls kj2 _ _ t564 t571 t572 t574 t575 _ ?side1 ?side2 A20.out).mono ?_); (case side1 => apply_rules [(Kd.V_reads' HO566.out).2.2, Kd.C_alloc, Kd.C_drewN, Kd.C_drew]); (case side2 => exact (Kd.V_reads' HO566.out).2.1); rintro e w29 ⟨v576, rfl, ho0, hb⟩; refine ⟨_, rfl, ?_⟩; replace HO566 := Aside0.mk (Kd.V_elder' (by apply_rules [HO566.out, Kd.V_alloc, Kd.V_drewN, Kd.V_drew]) (Kd.R_base ho0) hb); replace HO569 := Aside0.mk (Kd.V_elder' (by apply_rules [HO569.out, Kd.V_alloc, Kd.V_drewN, Kd.V_drew]) (Kd.R_base ho0) hb); have HO577 := Aside0.mk (Kd.R_lower ho0 (below_size (by apply_rules [HB.out, below_alloc, pw_below_drewN, below_drew1, below_set, GE561.out]))); replace BK561 := Aside0.mk (blk_below (g := gb561) (o := .cells #[.string a1_0, .string a1_1] 38 (0, 0)) (by apply_rules [BK561.out, blk_drewN, blk_drew, blk_alloc]) hb); replace HB := Aside0.mk (below_step (by apply_rules [HB.out, below_alloc, pw_below_drewN, below_drew1, below_set, GE561.out]) hb); (try clear hb); (try clear ho0); obtain ⟨Ao30, co30, eo30⟩ := Kd.V_slice HO569.out; subst eo30; obtain ⟨Ao31, co31, eo31⟩ := Kd.R_slice HO577.out; subst eo31) | ((with_reducible refine gate_callee (f := 34) rfl ?_); refine goesK (some 60) Tryz.func34 [.slice Ao30 t567.length co30, .slice Ao31 t574.length co31] rfl rfl ?_; (with_reducible refine (schismalaw12_Same.calls kj2 _ _ t567 _ _ t574 true _ ?side1 ?side2 ?side3 ?side4 A21.out).mono ?_); (case side1 => apply_rules [(Kd.V_reads' HO569.out).2.2, Kd.C_alloc, Kd.C_drewN, Kd.C_drew]); (case side2 => exact (Kd.V_reads' HO569.out).2.1); (case side3 => apply_rules [(Kd.R_reads' HO577.out).2.2, Kd.C_alloc, Kd.C_drewN, Kd.C_drew]); (case side4 => exact (Kd.R_reads' HO577.out).2.1); rintro e w' ⟨rfl, ⟨nd, rfl⟩⟩; refine ⟨_, rfl, ?_⟩))
      go_ret
      exact ⟨by first | rfl | simp [*], by apply_rules [HB.out, below_alloc, pw_below_drewN, below_drew1, below_set, GE561.out]⟩
     ·replace c22 := Bool.eq_false_iff.mpr c22
      subst c22
      have H1 : (some false) = some r := by rw [if_neg (show ¬ (false = true) by decide)] at H; exact H
      clear H
      have H := H1
      clear H1
      exact absurd ((Option.some.inj H).trans hr) Bool.false_ne_true
    ·replace c19 := Bool.eq_false_iff.mpr c19
     subst c19
     have H1 : (if (t567.length : Int) = 0 then (some (t570 == 2)) else (some false)) = some r := by rw [if_neg (show ¬ (false = true) by decide)] at H; exact H
     clear H
     have H := H1
     clear H1
     by_cases c41 : (t567.length : Int) = 0
     ·rw [if_pos c41] at H
      have c41b0 : ((t567.length : Int) == 0) = true := beq_iff_eq.mpr c41
      have c41b1 : ((t567.length : Int) != 0) = false := bne_eq_false_iff_eq.mpr c41
      clear c41
      obtain rfl := Option.some.inj H
      go_wp2_with (first | ((with_reducible refine gate_callee (f := 30) rfl ?_); refine goesK (some 29) Tryz.func30 [.int .u8 a0] rfl rfl ?_; (with_reducible refine (schismalaw12_Primes.calls a0 t564 _ A16.out).mono ?_); rintro e w42 ⟨v565, rfl, ho0, hb⟩; refine ⟨_, rfl, ?_⟩; have HO566 := Aside0.mk (Kd.V_lower (Kd.V_mono (ok' := fun k_ => k_ ≠ gb561) ho0 (fun k_ hk_ => (Kd.freshB (g := gb561) (o := .cells #[.string a1_0, .string a1_1] 38 (0, 0)) (by apply_rules [BK561.out, blk_drewN, blk_drew, blk_alloc]) k_ hk_))) (below_size (by apply_rules [HB.out, below_alloc, pw_below_drewN, below_drew1, below_set, GE561.out]))); replace BK561 := Aside0.mk (blk_below (g := gb561) (o := .cells #[.string a1_0, .string a1_1] 38 (0, 0)) (by apply_rules [BK561.out, blk_drewN, blk_drew, blk_alloc]) hb); replace HB := Aside0.mk (below_step (by apply_rules [HB.out, below_alloc, pw_below_drewN, below_drew1, below_set, GE561.out]) hb); (try clear hb); (try clear ho0); have hcz43_0 : w42.cell? ⟨gb561, 0, none⟩ = some (.string a1_0) := (blk_cell BK561.out 0).trans rfl; have hcz43_1 : w42.cell? ⟨gb561, 1, none⟩ = some (.string a1_1) := (blk_cell BK561.out 1).trans rfl; have hfz43_0 := blk_frozen BK561.out 0; have hfz43_1 := blk_frozen BK561.out 1; obtain ⟨Ao44, co44, eo44⟩ := Kd.V_slice HO566.out; subst eo44) | ((with_reducible refine gate_callee (f := 31) rfl ?_); refine goesK (some 33) Tryz.func31 [.slice Ao44 t564.length co44, .agg #[.string a1_0, .string a1_1]] rfl rfl ?_; (with_reducible refine (monzo_Of.calls kj2 _ _ t564 a1_0 a1_1 t567 t570 _ ?side1 ?side2 ?side3 A17.out).mono ?_); (case side1 => refine TabW.below hT ?_; apply_rules [HB.out, below_alloc, pw_below_drewN, below_drew1, below_set, GE561.out]); (case side2 => apply_rules [(Kd.V_reads' HO566.out).2.2, Kd.C_alloc, Kd.C_drewN, Kd.C_drew]); (case side3 => exact (Kd.V_reads' HO566.out).2.1); rintro e w45 ⟨v568, rfl, ho0, hb⟩; refine ⟨_, rfl, ?_⟩; replace HO566 := Aside0.mk (Kd.V_below (by apply_rules [HO566.out, Kd.V_alloc, Kd.V_drewN, Kd.V_drew]) hb); have HO569 := Aside0.mk (Kd.V_lower (Kd.V_mono (ok' := fun k_ => k_ ≠ gb561) ho0 (fun k_ hk_ => (Kd.freshB (g := gb561) (o := .cells #[.string a1_0, .string a1_1] 38 (0, 0)) (by apply_rules [BK561.out, blk_drewN, blk_drew, blk_alloc]) k_ hk_))) (below_size (by apply_rules [HB.out, below_alloc, pw_below_drewN, below_drew1, below_set, GE561.out]))); replace BK561 := Aside0.mk (blk_below (g := gb561) (o := .cells #[.string a1_0, .string a1_1] 38 (0, 0)) (by apply_rules [BK561.out, blk_drewN, blk_drew, blk_alloc]) hb); replace HB := Aside0.mk (below_step (by apply_rules [HB.out, below_alloc, pw_below_drewN, below_drew1, below_set, GE561.out]) hb); (try clear hb); (try clear ho0); have hcz46_0 : w45.cell? ⟨gb561, 0, none⟩ = some (.string a1_0) := (blk_cell BK561.out 0).trans rfl; have hcz46_1 : w45.cell? ⟨gb561, 1, none⟩ = some (.string a1_1) := (blk_cell BK561.out 1).trans rfl; have hfz46_0 := blk_frozen BK561.out 0; have hfz46_1 := blk_frozen BK561.out 1) | ((with_reducible refine gate_callee (f := 32) rfl ?_); refine goesK (some 38) Tryz.func32 [.agg #[.string a1_0, .string a1_1]] rfl rfl ?_; (with_reducible refine (schismaref04_Parts.calls kj2 a1_0 a1_1 t571 t572 false _ A18.out).mono ?_); rintro e w47 ⟨rfl, hb⟩; refine ⟨_, rfl, ?_⟩; replace HO566 := Aside0.mk (Kd.V_below (by apply_rules [HO566.out, Kd.V_alloc, Kd.V_drewN, Kd.V_drew]) hb); replace HO569 := Aside0.mk (Kd.V_below (by apply_rules [HO569.out, Kd.V_alloc, Kd.V_drewN, Kd.V_drew]) hb); replace BK561 := Aside0.mk (blk_below (g := gb561) (o := .cells #[.string a1_0, .string a1_1] 38 (0, 0)) (by apply_rules [BK561.out, blk_drewN, blk_drew, blk_alloc]) hb); replace HB := Aside0.mk (below_step (by apply_rules [HB.out, below_alloc, pw_below_drewN, below_drew1, below_set, GE561.out]) hb); (try clear hb); obtain ⟨Ao48, co48, eo48⟩ := Kd.V_slice HO569.out; subst eo48))
      go_ret
      exact ⟨by first | rfl | simp [*], by apply_rules [HB.out, below_alloc, pw_below_drewN, below_drew1, below_set, GE561.out]⟩
     ·rw [if_neg c41] at H
      have c41b0 : ((t567.length : Int) == 0) = false := beq_eq_false_iff_ne.mpr c41
      have c41b1 : ((t567.length : Int) != 0) = true := bne_iff_ne.mpr c41
      have c41b2 : ¬ (t567 = []) := fun h_ => c41 (by rw [h_]; rfl)
      exact absurd ((Option.some.inj H).trans hr) Bool.false_ne_true
end Go.Proofs.YtccebdpjdpjgnaaGreatDoor.P
