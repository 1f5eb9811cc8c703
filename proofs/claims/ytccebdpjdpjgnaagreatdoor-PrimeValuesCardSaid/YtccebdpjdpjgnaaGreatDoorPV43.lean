/-
words of the walks
-/
import Derived.Test.YtccebdpjdpjgnaaGreatDoorPV32
import Derived.Test.YtccebdpjdpjgnaaGreatDoorPV39
import Derived.Test.YtccebdpjdpjgnaaGreatDoorPV42
import Derived.Test.YtccebdpjdpjgnaaGreatDoorPV41
set_option linter.unusedVariables false
set_option linter.unusedSimpArgs false
namespace Go.Proofs.YtccebdpjdpjgnaaGreatDoor.P
open Go.RowKit Go.Proofs.YtccebdpjdpjgnaaGreatDoorW.PrintWords Go.Proofs.YtccebdpjdpjgnaaGreatDoorW.PrintLast Go.Proofs.YtccebdpjdpjgnaaGreatDoorW.PrintMore
attribute [local go_sem] max2_int min2_int max_two min_two max_three min_three max_four min_four
set_option linter.unusedVariables false
set_option linter.unusedSimpArgs false
attribute [local go_sem high] eqA38
mutual
def schismalaw11_PrimeValues.j0 : Nat → List Int → Bool → Int → Int → Option (Bool)
 | 0, _, _, _, _ => none
 | k + 1, x1, x20, x1394000, x1394001 => if x20 = true then ((schismalaw11_known.f k).bind fun t1395 => (some t1395)) else ((schismalaw11_Make.f k x1394000).bind fun t1396 => ((prime_Value.f k t1396 x1).bind fun bt1399 => ((schismalaw11_checkRow.f t1396 x1).bind fun t1403 => (if t1403 = 0 then ((schismalaw11_value.f k t1396 x1).bind fun bt1404 => (if (bt1404.1.size : Int) > 400 then (schismalaw11_PrimeValues.j1 k x1 t1396 bt1399.2.2 true bt1399.1 bt1399.2.1 bt1404.1 bt1404.2) else (schismalaw11_PrimeValues.j1 k x1 t1396 bt1399.2.2 (decide ((bt1404.2.size : Int) > 400)) bt1399.1 bt1399.2.1 bt1404.1 bt1404.2))) else (if bt1399.2.2 = t1403 then (some (bt1399.1.toList == ([] : List UInt8) && (bt1399.2.1.toList == ([] : List UInt8)))) else (some false))))))
def schismalaw11_PrimeValues.j1 : Nat → List Int → List Int → Int → Bool → ByteArray → ByteArray → ByteArray → ByteArray → Option (Bool)
 | 0, _, _, _, _, _, _, _, _ => none
 | k + 1, x1, x5, x7, x56, x1403000, x1403001, x1407000, x1407001 => if x56 = true then (if x7 = 4 then (some (x1403000.toList == ([] : List UInt8) && (x1403001.toList == ([] : List UInt8)))) else (some false)) else ((prime_Factor.f k x5 x1407000 x1407001).bind fun bt1407 => ((prime_Smooth.f k x5 x1407000 x1407001).bind fun bt1411 => (if x7 = 0 then (if (x1403000.toList == x1407000.toList && (x1403001.toList == x1407001.toList)) = true then (if bt1407.2 = 0 then ((api_Row_int.f k bt1407.1 x1).bind fun t1413 => (if t1413 = true then (if bt1411.2 = 0 then (some bt1411.1) else (some false)) else (some false))) else (some false)) else (some false)) else (some false))))
end
def schismalaw11_PrimeValues.f (k : Nat) (a0_0 : Int) (a0_1 : Int) (l1 : List Int) : Option (Bool) := (schismalaw11_known.f k).bind fun t1394 => (if t1394 = true then (schismalaw11_PrimeValues.j0 k l1 (decide ((l1.length : Int) > 8)) a0_0 a0_1) else (schismalaw11_PrimeValues.j0 k l1 true a0_0 a0_1))
set_option maxHeartbeats 8000000 in
set_option maxRecDepth 100000 in
theorem schismalaw11_PrimeValues.calls (k : Nat) (a0_0 : Int) (a0_1 : Int) (A1 : Option Addr) (c1 : Nat) (l1 : List Int) (r : Bool) (w : World) (hT : TabW w) (hr1 : Kd.C (Kd.int .i64) w A1 l1.length l1) (hc1 : l1.length ≤ c1) (h : schismalaw11_PrimeValues.f k a0_0 a0_1 l1 = some r) (hr : r = true) (hk : ∀ k, schismalaw11_known.f k ≠ some false) :
  Calls Tryz.prog 16 #[.agg #[.int .u16 a0_0, .int .u16 a0_1], .slice A1 l1.length c1] w fun e w' => e = .returned (.bool r) ∧ Below w.heap.size w w' := by
 have hu88 := Tryz.underlying88
 have hu38 := Tryz.underlying38
 have HR1 := Aside0.mk hr1
 have HC1 := Aside0.mk hc1
 clear hr1 hc1
 have HB := Aside0.mk (Below.refl w.heap.size w)
 have H : ((schismalaw11_known.f k).bind fun t1394 => (if t1394 = true then (schismalaw11_PrimeValues.j0 k l1 (decide ((l1.length : Int) > 8)) a0_0 a0_1) else (schismalaw11_PrimeValues.j0 k l1 true a0_0 a0_1))) = some r := h
 clear h
 have HC3 := Aside0.mk H
 clear H
 go_enter Tryz.func16, Tryz.ntmps16
 go_upto_region 1 with (first | ((with_reducible refine gate_dst (N := 2) rfl ?_); (try (refine gate_guard (by rfl) ?_; dsimp only)); refine box_event ?hg (N := 2) ?hd (cs := #[.int .u16 a0_0, .int .u16 a0_1]) (t := 88) ?hr ?_; (case hd => rfl); (case hg => rfl); (case hr => go_simp; try rfl); intro gb1393 hg w4 hbox hb; have n0_ := Aside0.mk (below_step (by apply_rules [HB.out, below_alloc, pw_below_drewN, below_drew1]) hb); have n1_ := Aside0.mk (hbox); have n2_ := Aside0.mk ((by rw [hg]; exact (below_size (by apply_rules [HB.out, below_alloc, pw_below_drewN, below_drew1])) : w.heap.size ≤ gb1393)); have n3_ := Aside0.mk ((by rw [hg]; exact (below_size (by apply_rules [HB.out, below_alloc, pw_below_drewN, below_drew1])) : w.heap.size ≤ gb1393)); clear HB; have HB := n0_; have BK1393 := n1_; have GW1393 := n2_; have GE1393 := n3_; clear n0_ n1_ n2_ n3_; clear hb hbox hg))
 (try simp only [Act.put, List.setIfInBounds_toArray, List.set_cons_zero, List.set_cons_succ])
 go_cut [20] (fun v20 wc => ∃ (kq : Nat) (x20_2 : Bool), v20 = .bool x20_2 ∧ Aside0 (schismalaw11_PrimeValues.j0 kq l1 x20_2 a0_0 a0_1 = some r) ∧ Aside0 (kq ≤ k) ∧ Aside0 (wc.heap[gb1393]? = some (.cells #[.int .u16 a0_0, .int .u16 a0_1] 88 (0, 0))) ∧ Aside0 (Below w.heap.size w wc))
 case first =>
  have H := HC3.out
  clear HC3
  replace H := Option.bind_eq_some_iff.mp H
  obtain ⟨t1394, A50, H⟩ := H
  try dsimp only at H
  have A5 := Aside0.mk A50
  clear A50
  by_cases c6 : t1394 = true
  ·subst c6
   have H1 : (schismalaw11_PrimeValues.j0 k l1 (decide ((l1.length : Int) > 8)) a0_0 a0_1) = some r := by rw [if_pos rfl] at H; exact H
   clear H
   have H := H1
   clear H1
   have H' := Aside0.mk H
   clear H
   go_wp2_with (first | ((with_reducible refine gate_callee (f := 58) rfl ?_); refine goesK (some 14) Tryz.func58 [] rfl rfl ?_; (with_reducible refine (schismalaw11_known.calls k  true _ ?side1 A5.out (by first | rfl | assumption)).mono ?_); (case side1 => refine TabW.below hT ?_; apply_rules [HB.out, below_alloc, pw_below_drewN, below_drew1, below_set, GE1393.out]); rintro e w7 ⟨rfl, hb⟩; refine ⟨_, rfl, ?_⟩; replace BK1393 := Aside0.mk (blk_below (g := gb1393) (o := .cells #[.int .u16 a0_0, .int .u16 a0_1] 88 (0, 0)) (by apply_rules [BK1393.out, blk_drewN, blk_drew, blk_alloc]) hb); replace HB := Aside0.mk (below_step (by apply_rules [HB.out, below_alloc, pw_below_drewN, below_drew1, below_set, GE1393.out]) hb); (try clear hb)))
   go_meet
   case rel => exact ⟨_, (decide ((l1.length : Int) > 8)), (by first | rfl | (simp; done) | (simp [*]; done)), H', ⟨by first | omega | exact Nat.le_refl _⟩, ⟨by apply_rules [BK1393.out, blk_drewN, blk_drew, blk_alloc]⟩, ⟨by apply_rules [HB.out, below_alloc, pw_below_drewN, below_drew1, below_set, GE1393.out]⟩⟩
  ·replace c6 := Bool.eq_false_iff.mpr c6
   subst c6
   have H1 : (schismalaw11_PrimeValues.j0 k l1 true a0_0 a0_1) = some r := by rw [if_neg (show ¬ (false = true) by decide)] at H; exact H
   clear H
   have H := H1
   clear H1
   have H' := Aside0.mk H
   clear H
   exact absurd A5.out (hk _)
 case rest =>
  clear HC3
  obtain ⟨kq, x20_2, rfl, HA, HJ2, BK1393, HB⟩ := hcut
  cases kq with
  | zero => exact absurd HA.out (by simp [schismalaw11_PrimeValues.j0])
  | succ kj2 =>
   have H := HA.out
   clear HA
   simp only [schismalaw11_PrimeValues.j0] at H
   by_cases c9 : x20_2 = true
   ·subst c9
    have H1 : ((schismalaw11_known.f kj2).bind fun t1395 => (some t1395)) = some r := by rw [if_pos rfl] at H; exact H
    clear H
    have H := H1
    clear H1
    replace H := Option.bind_eq_some_iff.mp H
    obtain ⟨t1395, A100, H⟩ := H
    try dsimp only at H
    have A10 := Aside0.mk A100
    clear A100
    obtain rfl := Option.some.inj H
    go_wp2_with (first | ((with_reducible refine gate_callee (f := 58) rfl ?_); refine goesK (some 21) Tryz.func58 [] rfl rfl ?_; (with_reducible refine (schismalaw11_known.calls kj2  t1395 _ ?side1 A10.out (by first | rfl | assumption)).mono ?_); (case side1 => refine TabW.below hT ?_; apply_rules [HB.out, below_alloc, pw_below_drewN, below_drew1, below_set, GE1393.out]); rintro e w11 ⟨rfl, hb⟩; refine ⟨_, rfl, ?_⟩; replace BK1393 := Aside0.mk (blk_below (g := gb1393) (o := .cells #[.int .u16 a0_0, .int .u16 a0_1] 88 (0, 0)) (by apply_rules [BK1393.out, blk_drewN, blk_drew, blk_alloc]) hb); replace HB := Aside0.mk (below_step (by apply_rules [HB.out, below_alloc, pw_below_drewN, below_drew1, below_set, GE1393.out]) hb); (try clear hb)))
    go_ret
    exact ⟨by first | rfl | simp [*], by apply_rules [HB.out, below_alloc, pw_below_drewN, below_drew1, below_set, GE1393.out]⟩
   ·replace c9 := Bool.eq_false_iff.mpr c9
    subst c9
    have H1 : ((schismalaw11_Make.f kj2 a0_0).bind fun t1396 => ((prime_Value.f kj2 t1396 l1).bind fun bt1399 => ((schismalaw11_checkRow.f t1396 l1).bind fun t1403 => (if t1403 = 0 then ((schismalaw11_value.f kj2 t1396 l1).bind fun bt1404 => (if (bt1404.1.size : Int) > 400 then (schismalaw11_PrimeValues.j1 kj2 l1 t1396 bt1399.2.2 true bt1399.1 bt1399.2.1 bt1404.1 bt1404.2) else (schismalaw11_PrimeValues.j1 kj2 l1 t1396 bt1399.2.2 (decide ((bt1404.2.size : Int) > 400)) bt1399.1 bt1399.2.1 bt1404.1 bt1404.2))) else (if bt1399.2.2 = t1403 then (some (bt1399.1.toList == ([] : List UInt8) && (bt1399.2.1.toList == ([] : List UInt8)))) else (some false)))))) = some r := by rw [if_neg (show ¬ (false = true) by decide)] at H; exact H
    clear H
    have H := H1
    clear H1
    replace H := Option.bind_eq_some_iff.mp H
    obtain ⟨t1396, A120, H⟩ := H
    try dsimp only at H
    have A12 := Aside0.mk A120
    clear A120
    replace H := Option.bind_eq_some_iff.mp H
    obtain ⟨⟨t1399, t1400, t1401⟩, A130, H⟩ := H
    try dsimp only at H
    have A13 := Aside0.mk A130
    clear A130
    replace H := Option.bind_eq_some_iff.mp H
    obtain ⟨t1403, A140, H⟩ := H
    try dsimp only at H
    have A14 := Aside0.mk A140
    clear A140
    by_cases c15 : t1403 = 0
    ·rw [if_pos c15] at H
     have c15b0 : (t1403 == 0) = true := beq_iff_eq.mpr c15
     have c15b1 : (t1403 != 0) = false := bne_eq_false_iff_eq.mpr c15
     clear c15
     replace H := Option.bind_eq_some_iff.mp H
     obtain ⟨⟨t1404, t1405⟩, A160, H⟩ := H
     try dsimp only at H
     have A16 := Aside0.mk A160
     clear A160
     have HC17 := Aside0.mk H
     clear H
     have hcz18_0 : wc.cell? ⟨gb1393, 0, none⟩ = some (.int .u16 a0_0) := (blk_cell BK1393.out 0).trans rfl
     have hcz18_1 : wc.cell? ⟨gb1393, 1, none⟩ = some (.int .u16 a0_1) := (blk_cell BK1393.out 1).trans rfl
     have hfz18_0 := blk_frozen BK1393.out 0
     have hfz18_1 := blk_frozen BK1393.out 1
     go_upto_region 9 with (first | ((with_reducible refine gate_callee (f := 66) rfl ?_); refine goesK (some 24) Tryz.func66 [.int .u16 a0_0] rfl rfl ?_; (with_reducible refine (schismalaw11_Make.calls kj2 a0_0 t1396 _ A12.out).mono ?_); rintro e w19 ⟨v1397, rfl, ho0, hb⟩; refine ⟨_, rfl, ?_⟩; have HO1398 := Aside0.mk (Kd.R_lower ho0 (below_size (by apply_rules [HB.out, below_alloc, pw_below_drewN, below_drew1, below_set, GE1393.out]))); replace BK1393 := Aside0.mk (blk_below (g := gb1393) (o := .cells #[.int .u16 a0_0, .int .u16 a0_1] 88 (0, 0)) (by apply_rules [BK1393.out, blk_drewN, blk_drew, blk_alloc]) hb); replace HB := Aside0.mk (below_step (by apply_rules [HB.out, below_alloc, pw_below_drewN, below_drew1, below_set, GE1393.out]) hb); (try clear hb); (try clear ho0); obtain ⟨Ao20, co20, eo20⟩ := Kd.R_slice HO1398.out; subst eo20) | ((with_reducible refine gate_callee (f := 79) rfl ?_); refine goesK (some 28) Tryz.func79 [.slice Ao20 t1396.length co20, .slice A1 l1.length c1] rfl rfl ?_; (with_reducible refine (prime_Value.calls kj2 _ _ t1396 _ _ l1 t1399 t1400 t1401 _ ?side1 ?side2 ?side3 ?side4 ?side5 A13.out).mono ?_); (case side1 => refine TabW.below hT ?_; apply_rules [HB.out, below_alloc, pw_below_drewN, below_drew1, below_set, GE1393.out]); (case side2 => apply_rules [(Kd.R_reads' HO1398.out).2.2, Kd.C_alloc, Kd.C_drewN, Kd.C_drew]); (case side3 => exact (Kd.R_reads' HO1398.out).2.1); (case side4 => apply_rules [(Kd.C_below HR1.out HB.out), Kd.C_alloc, Kd.C_drewN, Kd.C_drew]); (case side5 => exact HC1.out); rintro e w21 ⟨rfl, hb⟩; refine ⟨_, rfl, ?_⟩; replace HO1398 := Aside0.mk (Kd.R_below (by apply_rules [HO1398.out, Kd.R_alloc, Kd.R_drewN, Kd.R_drew]) hb); replace BK1393 := Aside0.mk (blk_below (g := gb1393) (o := .cells #[.int .u16 a0_0, .int .u16 a0_1] 88 (0, 0)) (by apply_rules [BK1393.out, blk_drewN, blk_drew, blk_alloc]) hb); replace HB := Aside0.mk (below_step (by apply_rules [HB.out, below_alloc, pw_below_drewN, below_drew1, below_set, GE1393.out]) hb); (try clear hb)) | ((with_reducible refine gate_dst (N := 6) rfl ?_); (try (refine gate_guard (by rfl) ?_; dsimp only)); refine box_event ?hg (N := 6) ?hd (cs := #[.string (⟨#[]⟩ : ByteArray), .string (⟨#[]⟩ : ByteArray)]) (t := 38) ?hr ?_; (case hd => rfl); (case hg => rfl); (case hr => go_simp; try rfl); intro gb1402 hg w22 hbox hb; have n0_ := Aside0.mk (Kd.R_below (by apply_rules [HO1398.out, Kd.R_alloc, Kd.R_drewN, Kd.R_drew]) hb); have n1_ := Aside0.mk (blk_below (g := gb1393) (o := .cells #[.int .u16 a0_0, .int .u16 a0_1] 88 (0, 0)) (by apply_rules [BK1393.out, blk_drewN, blk_drew, blk_alloc]) hb); have n2_ := Aside0.mk (below_step (by apply_rules [HB.out, below_alloc, pw_below_drewN, below_drew1, below_set, GE1393.out]) hb); have n3_ := Aside0.mk (hbox); have n4_ := Aside0.mk ((by rw [hg]; exact (below_size (by apply_rules [HB.out, below_alloc, pw_below_drewN, below_drew1, below_set, GE1393.out])) : w.heap.size ≤ gb1402)); have n5_ := Aside0.mk ((by rw [hg]; exact (below_size (by apply_rules [HB.out, below_alloc, pw_below_drewN, below_drew1, below_set, GE1393.out])) : w.heap.size ≤ gb1402)); have n6_ := Aside0.mk ((by rw [hg]; exact Nat.ne_of_lt (blk_lt (g := gb1393) (o := .cells #[.int .u16 a0_0, .int .u16 a0_1] 88 (0, 0)) (by apply_rules [BK1393.out, blk_drewN, blk_drew, blk_alloc])) : gb1393 ≠ gb1402)); have n7_ := Aside0.mk ((by rw [hg]; exact Nat.ne_of_gt (blk_lt (g := gb1393) (o := .cells #[.int .u16 a0_0, .int .u16 a0_1] 88 (0, 0)) (by apply_rules [BK1393.out, blk_drewN, blk_drew, blk_alloc])) : gb1402 ≠ gb1393)); clear HO1398; clear BK1393; clear HB; have HO1398 := n0_; have BK1393 := n1_; have HB := n2_; have BK1402 := n3_; have GW1402 := n4_; have GE1402 := n5_; have NB1393_1402 := n6_; have NB1402_1393 := n7_; clear n0_ n1_ n2_ n3_ n4_ n5_ n6_ n7_; clear hb hbox hg; have hnb23 := NB1402_1393.out; have hnc23 := NB1393_1402.out; have hcz24_0 : w22.cell? ⟨gb1402, 0, none⟩ = some (.string (⟨#[]⟩ : ByteArray)) := (blk_cell BK1402.out 0).trans rfl; have hcz24_1 : w22.cell? ⟨gb1402, 1, none⟩ = some (.string (⟨#[]⟩ : ByteArray)) := (blk_cell BK1402.out 1).trans rfl; have hfz24_0 := blk_frozen BK1402.out 0; have hfz24_1 := blk_frozen BK1402.out 1) | ((with_reducible refine gate_callee (f := 69) rfl ?_); refine goesK (some 33) Tryz.func69 [.slice Ao20 t1396.length co20, .slice A1 l1.length c1] rfl rfl ?_; (with_reducible refine (schismalaw11_checkRow.calls _ _ t1396 _ _ l1 t1403 _ ?side1 ?side2 ?side3 ?side4 A14.out).mono ?_); (case side1 => refine (Kd.R_reads' (e := 3) (base := w.heap.size) (ok := fun k_ => True) (n := t1396.length) (c := co20) ?_).2.2; exact (by (with_reducible repeat (first | apply Kd.R_alloc | apply Kd.R_drewN | apply Kd.R_drew)); exact (Kd.R_mono (Kd.R_far (p := ⟨gb1402, 1, none⟩) (Kd.R_far (p := ⟨gb1402, 0, none⟩) (Kd.R_types HO1398.out BK1402.out (by decide)) (fun _ hk => hk.2) (.string t1399)) (fun _ hk => hk.2) (.string t1400)) (fun _ h_ => h_.1)))); (case side2 => exact (Kd.R_reads' HO1398.out).2.1); (case side3 => exact Kd.C_below HR1.out (by apply_rules [HB.out, below_alloc, pw_below_drewN, below_drew1, below_set, GE1393.out, GE1402.out])); (case side4 => exact HC1.out); rintro e w25 ⟨rfl, hb⟩; refine ⟨_, rfl, ?_⟩; replace HO1398 := Aside0.mk (Kd.R_below (by (with_reducible repeat (first | apply Kd.R_alloc | apply Kd.R_drewN | apply Kd.R_drew)); exact (Kd.R_mono (Kd.R_far (p := ⟨gb1402, 1, none⟩) (Kd.R_far (p := ⟨gb1402, 0, none⟩) (Kd.R_types HO1398.out BK1402.out (by decide)) (fun _ hk => hk.2) (.string t1399)) (fun _ hk => hk.2) (.string t1400)) (fun _ h_ => h_.1))) hb); replace BK1393 := Aside0.mk (blk_below (g := gb1393) (o := .cells #[.int .u16 a0_0, .int .u16 a0_1] 88 (0, 0)) (by (with_reducible repeat (first | refine blk_drewN ?_ _ | refine blk_drew ?_ | refine blk_alloc ?_ _)); refine blk_far ?_ NB1393_1402.out _; (with_reducible repeat (first | refine blk_drewN ?_ _ | refine blk_drew ?_ | refine blk_alloc ?_ _)); refine blk_far ?_ NB1393_1402.out _; apply_rules [BK1393.out, blk_drewN, blk_drew, blk_alloc]) hb); replace BK1402 := Aside0.mk (blk_below (g := gb1402) (o := .cells #[.string t1399, .string t1400] 38 (0, 0)) (by (with_reducible repeat (first | refine blk_drewN ?_ _ | refine blk_drew ?_ | refine blk_alloc ?_ _)); refine blk_put (cs := #[.string t1399, .string (⟨#[]⟩ : ByteArray)]) ?_ 1 _ rfl; (with_reducible repeat (first | refine blk_drewN ?_ _ | refine blk_drew ?_ | refine blk_alloc ?_ _)); refine blk_put (cs := #[.string (⟨#[]⟩ : ByteArray), .string (⟨#[]⟩ : ByteArray)]) ?_ 0 _ rfl; apply_rules [BK1402.out, blk_drewN, blk_drew, blk_alloc]) hb); replace HB := Aside0.mk (below_step (by apply_rules [HB.out, below_alloc, pw_below_drewN, below_drew1, below_set, GE1393.out, GE1402.out]) hb); (try clear hb)) | ((with_reducible refine gate_callee (f := 80) rfl ?_); refine goesK (some 46) Tryz.func80 [.slice Ao20 t1396.length co20, .slice A1 l1.length c1] rfl rfl ?_; (with_reducible refine (schismalaw11_value.calls kj2 _ _ t1396 _ _ l1 t1404 t1405 _ ?side1 ?side2 ?side3 ?side4 ?side5 A16.out).mono ?_); (case side1 => refine TabW.below hT ?_; apply_rules [HB.out, below_alloc, pw_below_drewN, below_drew1, below_set, GE1393.out, GE1402.out]); (case side2 => apply_rules [(Kd.R_reads' HO1398.out).2.2, Kd.C_alloc, Kd.C_drewN, Kd.C_drew]); (case side3 => exact (Kd.R_reads' HO1398.out).2.1); (case side4 => apply_rules [(Kd.C_below HR1.out HB.out), Kd.C_alloc, Kd.C_drewN, Kd.C_drew]); (case side5 => exact HC1.out); rintro e w26 ⟨rfl, hb⟩; refine ⟨_, rfl, ?_⟩; replace HO1398 := Aside0.mk (Kd.R_below (by apply_rules [HO1398.out, Kd.R_alloc, Kd.R_drewN, Kd.R_drew]) hb); replace BK1393 := Aside0.mk (blk_below (g := gb1393) (o := .cells #[.int .u16 a0_0, .int .u16 a0_1] 88 (0, 0)) (by apply_rules [BK1393.out, blk_drewN, blk_drew, blk_alloc]) hb); replace BK1402 := Aside0.mk (blk_below (g := gb1402) (o := .cells #[.string t1399, .string t1400] 38 (0, 0)) (by apply_rules [BK1402.out, blk_drewN, blk_drew, blk_alloc]) hb); replace HB := Aside0.mk (below_step (by apply_rules [HB.out, below_alloc, pw_below_drewN, below_drew1, below_set, GE1393.out, GE1402.out]) hb); (try clear hb)) | ((with_reducible refine gate_dst (N := 9) rfl ?_); (try (refine gate_guard (by rfl) ?_; dsimp only)); refine box_event ?hg (N := 9) ?hd (cs := #[.string (⟨#[]⟩ : ByteArray), .string (⟨#[]⟩ : ByteArray)]) (t := 38) ?hr ?_; (case hd => rfl); (case hg => rfl); (case hr => go_simp; try rfl); intro gb1406 hg w27 hbox hb; have n0_ := Aside0.mk (Kd.R_below (by apply_rules [HO1398.out, Kd.R_alloc, Kd.R_drewN, Kd.R_drew]) hb); have n1_ := Aside0.mk (blk_below (g := gb1393) (o := .cells #[.int .u16 a0_0, .int .u16 a0_1] 88 (0, 0)) (by apply_rules [BK1393.out, blk_drewN, blk_drew, blk_alloc]) hb); have n2_ := Aside0.mk (blk_below (g := gb1402) (o := .cells #[.string t1399, .string t1400] 38 (0, 0)) (by apply_rules [BK1402.out, blk_drewN, blk_drew, blk_alloc]) hb); have n3_ := Aside0.mk (below_step (by apply_rules [HB.out, below_alloc, pw_below_drewN, below_drew1, below_set, GE1393.out, GE1402.out]) hb); have n4_ := Aside0.mk (hbox); have n5_ := Aside0.mk ((by rw [hg]; exact (below_size (by apply_rules [HB.out, below_alloc, pw_below_drewN, below_drew1, below_set, GE1393.out, GE1402.out])) : w.heap.size ≤ gb1406)); have n6_ := Aside0.mk ((by rw [hg]; exact (below_size (by apply_rules [HB.out, below_alloc, pw_below_drewN, below_drew1, below_set, GE1393.out, GE1402.out])) : w.heap.size ≤ gb1406)); have n7_ := Aside0.mk ((by rw [hg]; exact Nat.ne_of_lt (blk_lt (g := gb1393) (o := .cells #[.int .u16 a0_0, .int .u16 a0_1] 88 (0, 0)) (by apply_rules [BK1393.out, blk_drewN, blk_drew, blk_alloc])) : gb1393 ≠ gb1406)); have n8_ := Aside0.mk ((by rw [hg]; exact Nat.ne_of_gt (blk_lt (g := gb1393) (o := .cells #[.int .u16 a0_0, .int .u16 a0_1] 88 (0, 0)) (by apply_rules [BK1393.out, blk_drewN, blk_drew, blk_alloc])) : gb1406 ≠ gb1393)); have n9_ := Aside0.mk ((by rw [hg]; exact Nat.ne_of_lt (blk_lt (g := gb1402) (o := .cells #[.string t1399, .string t1400] 38 (0, 0)) (by apply_rules [BK1402.out, blk_drewN, blk_drew, blk_alloc])) : gb1402 ≠ gb1406)); have n10_ := Aside0.mk ((by rw [hg]; exact Nat.ne_of_gt (blk_lt (g := gb1402) (o := .cells #[.string t1399, .string t1400] 38 (0, 0)) (by apply_rules [BK1402.out, blk_drewN, blk_drew, blk_alloc])) : gb1406 ≠ gb1402)); clear HO1398; clear BK1393; clear BK1402; clear HB; have HO1398 := n0_; have BK1393 := n1_; have BK1402 := n2_; have HB := n3_; have BK1406 := n4_; have GW1406 := n5_; have GE1406 := n6_; have NB1393_1406 := n7_; have NB1406_1393 := n8_; have NB1402_1406 := n9_; have NB1406_1402 := n10_; clear n0_ n1_ n2_ n3_ n4_ n5_ n6_ n7_ n8_ n9_ n10_; clear hb hbox hg; have hnb28 := NB1406_1393.out; have hnc28 := NB1393_1406.out; have hnb29 := NB1406_1402.out; have hnc29 := NB1402_1406.out; have hcz30_0 : w27.cell? ⟨gb1406, 0, none⟩ = some (.string (⟨#[]⟩ : ByteArray)) := (blk_cell BK1406.out 0).trans rfl; have hcz30_1 : w27.cell? ⟨gb1406, 1, none⟩ = some (.string (⟨#[]⟩ : ByteArray)) := (blk_cell BK1406.out 1).trans rfl; have hfz30_0 := blk_frozen BK1406.out 0; have hfz30_1 := blk_frozen BK1406.out 1))
     (try simp only [Act.put, List.setIfInBounds_toArray, List.set_cons_zero, List.set_cons_succ])
     go_cut [56] (fun v56 wc => ∃ (kq : Nat) (x56_16 : Bool), v56 = .bool x56_16 ∧ Aside0 (schismalaw11_PrimeValues.j1 kq l1 t1396 t1401 x56_16 t1399 t1400 t1404 t1405 = some r) ∧ Aside0 (kq ≤ kj2) ∧ Aside0 (Kd.R (Kd.int .i64) 3 wc w.heap.size (fun _ => True) (.slice Ao20 t1396.length co20) t1396) ∧ Aside0 (wc.heap[gb1393]? = some (.cells #[.int .u16 a0_0, .int .u16 a0_1] 88 (0, 0))) ∧ Aside0 (wc.heap[gb1402]? = some (.cells #[.string t1399, .string t1400] 38 (0, 0))) ∧ Aside0 (wc.heap[gb1406]? = some (.cells #[.string t1404, .string t1405] 38 (0, 0))) ∧ Aside0 (Below w.heap.size w wc))
     case first =>
      have H := HC17.out
      clear HC17
      by_cases c31 : (t1404.size : Int) > 400
      ·rw [if_pos c31] at H
       have c31b0 : decide (400 < (t1404.size : Int)) = true := decide_eq_true c31
       have c31b1 : decide (400 < t1404.size) = true := decide_eq_true (by omega)
       clear c31
       (first | rw [c31b0] | (simp only [i64_w, i32_w]; rw [c31b0]) | skip)
       have H' := Aside0.mk H
       clear H
       have hnb32 := NB1406_1393.out
       have hnc32 := NB1393_1406.out
       have hnb33 := NB1406_1402.out
       have hnc33 := NB1402_1406.out
       have hcz34_0 : w27.cell? ⟨gb1406, 0, none⟩ = some (.string (⟨#[]⟩ : ByteArray)) := (blk_cell BK1406.out 0).trans rfl
       have hcz34_1 : w27.cell? ⟨gb1406, 1, none⟩ = some (.string (⟨#[]⟩ : ByteArray)) := (blk_cell BK1406.out 1).trans rfl
       have hfz34_0 := blk_frozen BK1406.out 0
       have hfz34_1 := blk_frozen BK1406.out 1
       go_wp2
       go_meet
       case rel => exact ⟨_, (true), (by first | rfl | (simp; done) | (simp [*]; done)), H', ⟨by have := HJ2.out; first | omega | exact Nat.le_refl _⟩, ⟨by (with_reducible repeat (first | apply Kd.R_alloc | apply Kd.R_drewN | apply Kd.R_drew)); exact Kd.R_mono (Kd.R_far (p := ⟨gb1406, 1, none⟩) (Kd.R_far (p := ⟨gb1406, 0, none⟩) (Kd.R_types HO1398.out BK1406.out (by decide)) (fun _ hk => hk.2) (.string t1404)) (fun _ hk => hk.2) (.string t1405)) (fun _ hk => trivial)⟩, ⟨by (with_reducible repeat (first | refine blk_drewN ?_ _ | refine blk_drew ?_ | refine blk_alloc ?_ _)); refine blk_far ?_ NB1393_1406.out _; (with_reducible repeat (first | refine blk_drewN ?_ _ | refine blk_drew ?_ | refine blk_alloc ?_ _)); refine blk_far ?_ NB1393_1406.out _; apply_rules [BK1393.out, blk_drewN, blk_drew, blk_alloc]⟩, ⟨by (with_reducible repeat (first | refine blk_drewN ?_ _ | refine blk_drew ?_ | refine blk_alloc ?_ _)); refine blk_far ?_ NB1402_1406.out _; (with_reducible repeat (first | refine blk_drewN ?_ _ | refine blk_drew ?_ | refine blk_alloc ?_ _)); refine blk_far ?_ NB1402_1406.out _; apply_rules [BK1402.out, blk_drewN, blk_drew, blk_alloc]⟩, ⟨by (with_reducible repeat (first | refine blk_drewN ?_ _ | refine blk_drew ?_ | refine blk_alloc ?_ _)); refine blk_put (cs := #[.string t1404, .string (⟨#[]⟩ : ByteArray)]) ?_ 1 _ rfl; (with_reducible repeat (first | refine blk_drewN ?_ _ | refine blk_drew ?_ | refine blk_alloc ?_ _)); refine blk_put (cs := #[.string (⟨#[]⟩ : ByteArray), .string (⟨#[]⟩ : ByteArray)]) ?_ 0 _ rfl; apply_rules [BK1406.out, blk_drewN, blk_drew, blk_alloc]⟩, ⟨by apply_rules [HB.out, below_alloc, pw_below_drewN, below_drew1, below_set, GE1393.out, GE1402.out, GE1406.out]⟩⟩
      ·rw [if_neg c31] at H
       have c31b0 : decide (400 < (t1404.size : Int)) = false := decide_eq_false c31
       have c31b1 : decide (400 < t1404.size) = false := decide_eq_false (by omega)
       clear c31
       (first | rw [c31b0] | (simp only [i64_w, i32_w]; rw [c31b0]) | skip)
       have H' := Aside0.mk H
       clear H
       have hnb35 := NB1406_1393.out
       have hnc35 := NB1393_1406.out
       have hnb36 := NB1406_1402.out
       have hnc36 := NB1402_1406.out
       have hcz37_0 : w27.cell? ⟨gb1406, 0, none⟩ = some (.string (⟨#[]⟩ : ByteArray)) := (blk_cell BK1406.out 0).trans rfl
       have hcz37_1 : w27.cell? ⟨gb1406, 1, none⟩ = some (.string (⟨#[]⟩ : ByteArray)) := (blk_cell BK1406.out 1).trans rfl
       have hfz37_0 := blk_frozen BK1406.out 0
       have hfz37_1 := blk_frozen BK1406.out 1
       go_wp2
       go_meet
       case rel => exact ⟨_, (decide ((t1405.size : Int) > 400)), (by first | rfl | (simp; done) | (simp [*]; done)), H', ⟨by have := HJ2.out; first | omega | exact Nat.le_refl _⟩, ⟨by (with_reducible repeat (first | apply Kd.R_alloc | apply Kd.R_drewN | apply Kd.R_drew)); exact Kd.R_mono (Kd.R_far (p := ⟨gb1406, 1, none⟩) (Kd.R_far (p := ⟨gb1406, 0, none⟩) (Kd.R_types HO1398.out BK1406.out (by decide)) (fun _ hk => hk.2) (.string t1404)) (fun _ hk => hk.2) (.string t1405)) (fun _ hk => trivial)⟩, ⟨by (with_reducible repeat (first | refine blk_drewN ?_ _ | refine blk_drew ?_ | refine blk_alloc ?_ _)); refine blk_far ?_ NB1393_1406.out _; (with_reducible repeat (first | refine blk_drewN ?_ _ | refine blk_drew ?_ | refine blk_alloc ?_ _)); refine blk_far ?_ NB1393_1406.out _; apply_rules [BK1393.out, blk_drewN, blk_drew, blk_alloc]⟩, ⟨by (with_reducible repeat (first | refine blk_drewN ?_ _ | refine blk_drew ?_ | refine blk_alloc ?_ _)); refine blk_far ?_ NB1402_1406.out _; (with_reducible repeat (first | refine blk_drewN ?_ _ | refine blk_drew ?_ | refine blk_alloc ?_ _)); refine blk_far ?_ NB1402_1406.out _; apply_rules [BK1402.out, blk_drewN, blk_drew, blk_alloc]⟩, ⟨by (with_reducible repeat (first | refine blk_drewN ?_ _ | refine blk_drew ?_ | refine blk_alloc ?_ _)); refine blk_put (cs := #[.string t1404, .string (⟨#[]⟩ : ByteArray)]) ?_ 1 _ rfl; (with_reducible repeat (first | refine blk_drewN ?_ _ | refine blk_drew ?_ | refine blk_alloc ?_ _)); refine blk_put (cs := #[.string (⟨#[]⟩ : ByteArray), .string (⟨#[]⟩ : ByteArray)]) ?_ 0 _ rfl; apply_rules [BK1406.out, blk_drewN, blk_drew, blk_alloc]⟩, ⟨by apply_rules [HB.out, below_alloc, pw_below_drewN, below_drew1, below_set, GE1393.out, GE1402.out, GE1406.out]⟩⟩
     case rest =>
      clear HC17
      obtain ⟨kq, x56_16, rfl, HA, HJ16, HO_5, BK1393, BK1402, BK1406, HB⟩ := hcut
      cases kq with
      | zero => exact absurd HA.out (by simp [schismalaw11_PrimeValues.j1])
      | succ kj16 =>
       have H := HA.out
       clear HA
       simp only [schismalaw11_PrimeValues.j1] at H
       by_cases c38 : x56_16 = true
       ·subst c38
        have H1 : (if t1401 = 4 then (some (t1399.toList == ([] : List UInt8) && (t1400.toList == ([] : List UInt8)))) else (some false)) = some r := by rw [if_pos rfl] at H; exact H
        clear H
        have H := H1
        clear H1
        by_cases c39 : t1401 = 4
        case neg => rw [if_neg c39] at H; have c39b0 : (t1401 == 4) = false := beq_eq_false_iff_ne.mpr c39; have c39b1 : (t1401 != 4) = true := bne_iff_ne.mpr c39; exact absurd ((Option.some.inj H).trans hr) Bool.false_ne_true
        rw [if_pos c39] at H
        have c39b0 : (t1401 == 4) = true := beq_iff_eq.mpr c39
        have c39b1 : (t1401 != 4) = false := bne_eq_false_iff_eq.mpr c39
        clear c39
        obtain rfl := Option.some.inj H
        have hnb40 := NB1402_1393.out
        have hnc40 := NB1393_1402.out
        have hnb41 := NB1402_1406.out
        have hnc41 := NB1406_1402.out
        have hcz42_0 : wc.cell? ⟨gb1402, 0, none⟩ = some (.string t1399) := (blk_cell BK1402.out 0).trans rfl
        have hcz42_1 : wc.cell? ⟨gb1402, 1, none⟩ = some (.string t1400) := (blk_cell BK1402.out 1).trans rfl
        have hfz42_0 := blk_frozen BK1402.out 0
        have hfz42_1 := blk_frozen BK1402.out 1
        go_wp2
        go_ret
        exact ⟨by first | rfl | simp [*], by apply_rules [HB.out, below_alloc, pw_below_drewN, below_drew1, below_set, GE1393.out, GE1402.out, GE1406.out]⟩
       ·replace c38 := Bool.eq_false_iff.mpr c38
        subst c38
        have H1 : ((prime_Factor.f kj16 t1396 t1404 t1405).bind fun bt1407 => ((prime_Smooth.f kj16 t1396 t1404 t1405).bind fun bt1411 => (if t1401 = 0 then (if (t1399.toList == t1404.toList && (t1400.toList == t1405.toList)) = true then (if bt1407.2 = 0 then ((api_Row_int.f kj16 bt1407.1 l1).bind fun t1413 => (if t1413 = true then (if bt1411.2 = 0 then (some bt1411.1) else (some false)) else (some false))) else (some false)) else (some false)) else (some false)))) = some r := by rw [if_neg (show ¬ (false = true) by decide)] at H; exact H
        clear H
        have H := H1
        clear H1
        replace H := Option.bind_eq_some_iff.mp H
        obtain ⟨⟨t1407, t1410⟩, A430, H⟩ := H
        try dsimp only at H
        have A43 := Aside0.mk A430
        clear A430
        replace H := Option.bind_eq_some_iff.mp H
        obtain ⟨⟨t1411, t1412⟩, A440, H⟩ := H
        try dsimp only at H
        have A44 := Aside0.mk A440
        clear A440
        by_cases c45 : t1401 = 0
        case neg => rw [if_neg c45] at H; have c45b0 : (t1401 == 0) = false := beq_eq_false_iff_ne.mpr c45; have c45b1 : (t1401 != 0) = true := bne_iff_ne.mpr c45; exact absurd ((Option.some.inj H).trans hr) Bool.false_ne_true
        rw [if_pos c45] at H
        have c45b0 : (t1401 == 0) = true := beq_iff_eq.mpr c45
        have c45b1 : (t1401 != 0) = false := bne_eq_false_iff_eq.mpr c45
        clear c45
        by_cases c46 : (t1399.toList == t1404.toList && (t1400.toList == t1405.toList)) = true
        ·rw [if_pos c46] at H
         have c46b0 : (t1399.toList == t1404.toList && (t1400.toList == t1405.toList)) = true := c46
         (try (have c46b1 : decide (t1399.toList = t1404.toList && (t1400.toList == t1405.toList)) = true := by simpa using c46))
         (try (have c46b2 : (t1399.toList == t1404.toList && (t1400.toList == t1405.toList)) = true := by simpa using c46))
         clear c46
         by_cases c47 : t1410 = 0
         case neg => rw [if_neg c47] at H; have c47b0 : (t1410 == 0) = false := beq_eq_false_iff_ne.mpr c47; have c47b1 : (t1410 != 0) = true := bne_iff_ne.mpr c47; exact absurd ((Option.some.inj H).trans hr) Bool.false_ne_true
         rw [if_pos c47] at H
         have c47b0 : (t1410 == 0) = true := beq_iff_eq.mpr c47
         have c47b1 : (t1410 != 0) = false := bne_eq_false_iff_eq.mpr c47
         clear c47
         replace H := Option.bind_eq_some_iff.mp H
         obtain ⟨t1413, A480, H⟩ := H
         try dsimp only at H
         have A48 := Aside0.mk A480
         clear A480
         by_cases c49 : t1413 = true
         ·subst c49
          have H1 : (if t1412 = 0 then (some t1411) else (some false)) = some r := by rw [if_pos rfl] at H; exact H
          clear H
          have H := H1
          clear H1
          by_cases c50 : t1412 = 0
          case neg => rw [if_neg c50] at H; have c50b0 : (t1412 == 0) = false := beq_eq_false_iff_ne.mpr c50; have c50b1 : (t1412 != 0) = true := bne_iff_ne.mpr c50; exact absurd ((Option.some.inj H).trans hr) Bool.false_ne_true
          rw [if_pos c50] at H
          have c50b0 : (t1412 == 0) = true := beq_iff_eq.mpr c50
          have c50b1 : (t1412 != 0) = false := bne_eq_false_iff_eq.mpr c50
          clear c50
          obtain rfl := Option.some.inj H
          have hnb51 := NB1406_1393.out
          have hnc51 := NB1393_1406.out
          have hnb52 := NB1406_1402.out
          have hnc52 := NB1402_1406.out
          have hcz53_0 : wc.cell? ⟨gb1406, 0, none⟩ = some (.string t1404) := (blk_cell BK1406.out 0).trans rfl
          have hcz53_1 : wc.cell? ⟨gb1406, 1, none⟩ = some (.string t1405) := (blk_cell BK1406.out 1).trans rfl
          have hfz53_0 := blk_frozen BK1406.out 0
          have hfz53_1 := blk_frozen BK1406.out 1
          go_wp2_with (first | ((with_reducible refine gate_callee (f := 78) rfl ?_); refine goesK (some 67) Tryz.func78 [.slice Ao20 t1396.length co20, .agg #[.string t1404, .string t1405]] rfl rfl ?_; (with_reducible refine (prime_Factor.calls kj16 _ _ t1396 t1404 t1405 t1407 t1410 _ ?side1 ?side2 ?side3 A43.out).mono ?_); (case side1 => refine TabW.below hT ?_; apply_rules [HB.out, below_alloc, pw_below_drewN, below_drew1, below_set, GE1393.out, GE1402.out, GE1406.out]); (case side2 => apply_rules [(Kd.R_reads' HO_5.out).2.2, Kd.C_alloc, Kd.C_drewN, Kd.C_drew]); (case side3 => exact (Kd.R_reads' HO_5.out).2.1); rintro e w54 ⟨v1408, rfl, ho0, hb⟩; refine ⟨_, rfl, ?_⟩; have n0_ := Aside0.mk (Kd.R_elder' (by apply_rules [HO_5.out, Kd.R_alloc, Kd.R_drewN, Kd.R_drew]) (Kd.R_base ho0) hb); have n1_ := Aside0.mk (Kd.R_lower (Kd.R_new' ho0 (Kd.R_lt (by apply_rules [HO_5.out, Kd.R_alloc, Kd.R_drewN, Kd.R_drew]))) (below_size (by apply_rules [HB.out, below_alloc, pw_below_drewN, below_drew1, below_set, GE1393.out, GE1402.out, GE1406.out]))); have n2_ := Aside0.mk (blk_below (g := gb1393) (o := .cells #[.int .u16 a0_0, .int .u16 a0_1] 88 (0, 0)) (by apply_rules [BK1393.out, blk_drewN, blk_drew, blk_alloc]) hb); have n3_ := Aside0.mk (blk_below (g := gb1402) (o := .cells #[.string t1399, .string t1400] 38 (0, 0)) (by apply_rules [BK1402.out, blk_drewN, blk_drew, blk_alloc]) hb); have n4_ := Aside0.mk (blk_below (g := gb1406) (o := .cells #[.string t1404, .string t1405] 38 (0, 0)) (by apply_rules [BK1406.out, blk_drewN, blk_drew, blk_alloc]) hb); have n5_ := Aside0.mk (below_step (by apply_rules [HB.out, below_alloc, pw_below_drewN, below_drew1, below_set, GE1393.out, GE1402.out, GE1406.out]) hb); clear HO_5; clear BK1393; clear BK1402; clear BK1406; clear HB; have HO_5 := n0_; have HO1409 := n1_; have BK1393 := n2_; have BK1402 := n3_; have BK1406 := n4_; have HB := n5_; clear n0_ n1_ n2_ n3_ n4_ n5_; (try clear hb); (try clear ho0); have hcz55_0 : w54.cell? ⟨gb1406, 0, none⟩ = some (.string t1404) := (blk_cell BK1406.out 0).trans rfl; have hcz55_1 : w54.cell? ⟨gb1406, 1, none⟩ = some (.string t1405) := (blk_cell BK1406.out 1).trans rfl; have hfz55_0 := blk_frozen BK1406.out 0; have hfz55_1 := blk_frozen BK1406.out 1) | ((with_reducible refine gate_callee (f := 81) rfl ?_); refine goesK (some 73) Tryz.func81 [.slice Ao20 t1396.length co20, .agg #[.string t1404, .string t1405]] rfl rfl ?_; (with_reducible refine (prime_Smooth.calls kj16 _ _ t1396 t1404 t1405 t1411 t1412 _ ?side1 ?side2 ?side3 A44.out).mono ?_); (case side1 => refine TabW.below hT ?_; apply_rules [HB.out, below_alloc, pw_below_drewN, below_drew1, below_set, GE1393.out, GE1402.out, GE1406.out]); (case side2 => apply_rules [(Kd.R_reads' HO_5.out).2.2, Kd.C_alloc, Kd.C_drewN, Kd.C_drew]); (case side3 => exact (Kd.R_reads' HO_5.out).2.1); rintro e w56 ⟨rfl, hb⟩; refine ⟨_, rfl, ?_⟩; replace HO_5 := Aside0.mk (Kd.R_below (by apply_rules [HO_5.out, Kd.R_alloc, Kd.R_drewN, Kd.R_drew]) hb); replace HO1409 := Aside0.mk (Kd.R_below (by apply_rules [HO1409.out, Kd.R_alloc, Kd.R_drewN, Kd.R_drew]) hb); replace BK1393 := Aside0.mk (blk_below (g := gb1393) (o := .cells #[.int .u16 a0_0, .int .u16 a0_1] 88 (0, 0)) (by apply_rules [BK1393.out, blk_drewN, blk_drew, blk_alloc]) hb); replace BK1402 := Aside0.mk (blk_below (g := gb1402) (o := .cells #[.string t1399, .string t1400] 38 (0, 0)) (by apply_rules [BK1402.out, blk_drewN, blk_drew, blk_alloc]) hb); replace BK1406 := Aside0.mk (blk_below (g := gb1406) (o := .cells #[.string t1404, .string t1405] 38 (0, 0)) (by apply_rules [BK1406.out, blk_drewN, blk_drew, blk_alloc]) hb); replace HB := Aside0.mk (below_step (by apply_rules [HB.out, below_alloc, pw_below_drewN, below_drew1, below_set, GE1393.out, GE1402.out, GE1406.out]) hb); (try clear hb); have hnb57 := NB1402_1393.out; have hnc57 := NB1393_1402.out; have hcz58_0 : w56.cell? ⟨gb1402, 0, none⟩ = some (.string t1399) := (blk_cell BK1402.out 0).trans rfl; have hcz58_1 : w56.cell? ⟨gb1402, 1, none⟩ = some (.string t1400) := (blk_cell BK1402.out 1).trans rfl; have hfz58_0 := blk_frozen BK1402.out 0; have hfz58_1 := blk_frozen BK1402.out 1; have hcz59_0 : w56.cell? ⟨gb1406, 0, none⟩ = some (.string t1404) := (blk_cell BK1406.out 0).trans rfl; have hcz59_1 : w56.cell? ⟨gb1406, 1, none⟩ = some (.string t1405) := (blk_cell BK1406.out 1).trans rfl; have hfz59_0 := blk_frozen BK1406.out 0; have hfz59_1 := blk_frozen BK1406.out 1; obtain ⟨Ao60, co60, eo60⟩ := Kd.R_slice HO1409.out; subst eo60) | (go_at_call 71; (with_reducible refine (api_Row_int.calls kj16 _ _ t1407 _ _ l1 true _ ?side1 ?side2 ?side3 ?side4 A48.out).mono ?_); (case side1 => apply_rules [(Kd.R_reads' HO1409.out).2.2, Kd.C_alloc, Kd.C_drewN, Kd.C_drew]); (case side2 => exact (Kd.R_reads' HO1409.out).2.1); (case side3 => apply_rules [(Kd.C_below HR1.out HB.out), Kd.C_alloc, Kd.C_drewN, Kd.C_drew]); (case side4 => exact HC1.out); rintro e w' ⟨rfl, ⟨nd, rfl⟩⟩))
          go_ret
          exact ⟨by first | rfl | simp [*], by apply_rules [HB.out, below_alloc, pw_below_drewN, below_drew1, below_set, GE1393.out, GE1402.out, GE1406.out]⟩
         ·replace c49 := Bool.eq_false_iff.mpr c49
          subst c49
          have H1 : (some false) = some r := by rw [if_neg (show ¬ (false = true) by decide)] at H; exact H
          clear H
          have H := H1
          clear H1
          exact absurd ((Option.some.inj H).trans hr) Bool.false_ne_true
        ·rw [if_neg c46] at H
         have c46b0 : (t1399.toList == t1404.toList && (t1400.toList == t1405.toList)) = false := by simpa using c46
         (try (have c46b1 : decide (t1399.toList = t1404.toList && (t1400.toList == t1405.toList)) = false := by simpa using c46))
         (try (have c46b2 : (t1399.toList == t1404.toList && (t1400.toList == t1405.toList)) = false := by simpa using c46))
         (try (have c46b3 : ¬ (t1399.toList = t1404.toList && (t1400.toList == t1405.toList)) := by simpa using c46))
         clear c46
         exact absurd ((Option.some.inj H).trans hr) Bool.false_ne_true
    ·rw [if_neg c15] at H
     have c15b0 : (t1403 == 0) = false := beq_eq_false_iff_ne.mpr c15
     have c15b1 : (t1403 != 0) = true := bne_iff_ne.mpr c15
     by_cases c105 : t1401 = t1403
     case neg => rw [if_neg c105] at H; have c105b0 : (t1401 == t1403) = false := beq_eq_false_iff_ne.mpr c105; have c105b1 : (t1401 != t1403) = true := bne_iff_ne.mpr c105; exact absurd ((Option.some.inj H).trans hr) Bool.false_ne_true
     rw [if_pos c105] at H
     have c105b0 : (t1401 == t1403) = true := beq_iff_eq.mpr c105
     have c105b1 : (t1401 != t1403) = false := bne_eq_false_iff_eq.mpr c105
     clear c105
     obtain rfl := Option.some.inj H
     have hcz106_0 : wc.cell? ⟨gb1393, 0, none⟩ = some (.int .u16 a0_0) := (blk_cell BK1393.out 0).trans rfl
     have hcz106_1 : wc.cell? ⟨gb1393, 1, none⟩ = some (.int .u16 a0_1) := (blk_cell BK1393.out 1).trans rfl
     have hfz106_0 := blk_frozen BK1393.out 0
     have hfz106_1 := blk_frozen BK1393.out 1
     go_wp2_with (first | ((with_reducible refine gate_callee (f := 66) rfl ?_); refine goesK (some 24) Tryz.func66 [.int .u16 a0_0] rfl rfl ?_; (with_reducible refine (schismalaw11_Make.calls kj2 a0_0 t1396 _ A12.out).mono ?_); rintro e w107 ⟨v1397, rfl, ho0, hb⟩; refine ⟨_, rfl, ?_⟩; have HO1398 := Aside0.mk (Kd.R_lower ho0 (below_size (by apply_rules [HB.out, below_alloc, pw_below_drewN, below_drew1, below_set, GE1393.out]))); replace BK1393 := Aside0.mk (blk_below (g := gb1393) (o := .cells #[.int .u16 a0_0, .int .u16 a0_1] 88 (0, 0)) (by apply_rules [BK1393.out, blk_drewN, blk_drew, blk_alloc]) hb); replace HB := Aside0.mk (below_step (by apply_rules [HB.out, below_alloc, pw_below_drewN, below_drew1, below_set, GE1393.out]) hb); (try clear hb); (try clear ho0); obtain ⟨Ao108, co108, eo108⟩ := Kd.R_slice HO1398.out; subst eo108) | ((with_reducible refine gate_callee (f := 79) rfl ?_); refine goesK (some 28) Tryz.func79 [.slice Ao108 t1396.length co108, .slice A1 l1.length c1] rfl rfl ?_; (with_reducible refine (prime_Value.calls kj2 _ _ t1396 _ _ l1 t1399 t1400 t1401 _ ?side1 ?side2 ?side3 ?side4 ?side5 A13.out).mono ?_); (case side1 => refine TabW.below hT ?_; apply_rules [HB.out, below_alloc, pw_below_drewN, below_drew1, below_set, GE1393.out]); (case side2 => apply_rules [(Kd.R_reads' HO1398.out).2.2, Kd.C_alloc, Kd.C_drewN, Kd.C_drew]); (case side3 => exact (Kd.R_reads' HO1398.out).2.1); (case side4 => apply_rules [(Kd.C_below HR1.out HB.out), Kd.C_alloc, Kd.C_drewN, Kd.C_drew]); (case side5 => exact HC1.out); rintro e w109 ⟨rfl, hb⟩; refine ⟨_, rfl, ?_⟩; replace HO1398 := Aside0.mk (Kd.R_below (by apply_rules [HO1398.out, Kd.R_alloc, Kd.R_drewN, Kd.R_drew]) hb); replace BK1393 := Aside0.mk (blk_below (g := gb1393) (o := .cells #[.int .u16 a0_0, .int .u16 a0_1] 88 (0, 0)) (by apply_rules [BK1393.out, blk_drewN, blk_drew, blk_alloc]) hb); replace HB := Aside0.mk (below_step (by apply_rules [HB.out, below_alloc, pw_below_drewN, below_drew1, below_set, GE1393.out]) hb); (try clear hb)) | ((with_reducible refine gate_dst (N := 6) rfl ?_); (try (refine gate_guard (by rfl) ?_; dsimp only)); refine box_event ?hg (N := 6) ?hd (cs := #[.string (⟨#[]⟩ : ByteArray), .string (⟨#[]⟩ : ByteArray)]) (t := 38) ?hr ?_; (case hd => rfl); (case hg => rfl); (case hr => go_simp; try rfl); intro gb1402 hg w110 hbox hb; have n0_ := Aside0.mk (Kd.R_below (by apply_rules [HO1398.out, Kd.R_alloc, Kd.R_drewN, Kd.R_drew]) hb); have n1_ := Aside0.mk (blk_below (g := gb1393) (o := .cells #[.int .u16 a0_0, .int .u16 a0_1] 88 (0, 0)) (by apply_rules [BK1393.out, blk_drewN, blk_drew, blk_alloc]) hb); have n2_ := Aside0.mk (below_step (by apply_rules [HB.out, below_alloc, pw_below_drewN, below_drew1, below_set, GE1393.out]) hb); have n3_ := Aside0.mk (hbox); have n4_ := Aside0.mk ((by rw [hg]; exact (below_size (by apply_rules [HB.out, below_alloc, pw_below_drewN, below_drew1, below_set, GE1393.out])) : w.heap.size ≤ gb1402)); have n5_ := Aside0.mk ((by rw [hg]; exact (below_size (by apply_rules [HB.out, below_alloc, pw_below_drewN, below_drew1, below_set, GE1393.out])) : w.heap.size ≤ gb1402)); have n6_ := Aside0.mk ((by rw [hg]; exact Nat.ne_of_lt (blk_lt (g := gb1393) (o := .cells #[.int .u16 a0_0, .int .u16 a0_1] 88 (0, 0)) (by apply_rules [BK1393.out, blk_drewN, blk_drew, blk_alloc])) : gb1393 ≠ gb1402)); have n7_ := Aside0.mk ((by rw [hg]; exact Nat.ne_of_gt (blk_lt (g := gb1393) (o := .cells #[.int .u16 a0_0, .int .u16 a0_1] 88 (0, 0)) (by apply_rules [BK1393.out, blk_drewN, blk_drew, blk_alloc])) : gb1402 ≠ gb1393)); clear HO1398; clear BK1393; clear HB; have HO1398 := n0_; have BK1393 := n1_; have HB := n2_; have BK1402 := n3_; have GW1402 := n4_; have GE1402 := n5_; have NB1393_1402 := n6_; have NB1402_1393 := n7_; clear n0_ n1_ n2_ n3_ n4_ n5_ n6_ n7_; clear hb hbox hg; have hnb111 := NB1402_1393.out; have hnc111 := NB1393_1402.out; have hcz112_0 : w110.cell? ⟨gb1402, 0, none⟩ = some (.string (⟨#[]⟩ : ByteArray)) := (blk_cell BK1402.out 0).trans rfl; have hcz112_1 : w110.cell? ⟨gb1402, 1, none⟩ = some (.string (⟨#[]⟩ : ByteArray)) := (blk_cell BK1402.out 1).trans rfl; have hfz112_0 := blk_frozen BK1402.out 0; have hfz112_1 := blk_frozen BK1402.out 1) | ((with_reducible refine gate_callee (f := 69) rfl ?_); refine goesK (some 33) Tryz.func69 [.slice Ao108 t1396.length co108, .slice A1 l1.length c1] rfl rfl ?_; (with_reducible refine (schismalaw11_checkRow.calls _ _ t1396 _ _ l1 t1403 _ ?side1 ?side2 ?side3 ?side4 A14.out).mono ?_); (case side1 => refine (Kd.R_reads' (e := 3) (base := w.heap.size) (ok := fun k_ => True) (n := t1396.length) (c := co108) ?_).2.2; exact (by (with_reducible repeat (first | apply Kd.R_alloc | apply Kd.R_drewN | apply Kd.R_drew)); exact (Kd.R_mono (Kd.R_far (p := ⟨gb1402, 1, none⟩) (Kd.R_far (p := ⟨gb1402, 0, none⟩) (Kd.R_types HO1398.out BK1402.out (by decide)) (fun _ hk => hk.2) (.string t1399)) (fun _ hk => hk.2) (.string t1400)) (fun _ h_ => h_.1)))); (case side2 => exact (Kd.R_reads' HO1398.out).2.1); (case side3 => exact Kd.C_below HR1.out (by apply_rules [HB.out, below_alloc, pw_below_drewN, below_drew1, below_set, GE1393.out, GE1402.out])); (case side4 => exact HC1.out); rintro e w113 ⟨rfl, hb⟩; refine ⟨_, rfl, ?_⟩; replace HO1398 := Aside0.mk (Kd.R_below (by (with_reducible repeat (first | apply Kd.R_alloc | apply Kd.R_drewN | apply Kd.R_drew)); exact (Kd.R_mono (Kd.R_far (p := ⟨gb1402, 1, none⟩) (Kd.R_far (p := ⟨gb1402, 0, none⟩) (Kd.R_types HO1398.out BK1402.out (by decide)) (fun _ hk => hk.2) (.string t1399)) (fun _ hk => hk.2) (.string t1400)) (fun _ h_ => h_.1))) hb); replace BK1393 := Aside0.mk (blk_below (g := gb1393) (o := .cells #[.int .u16 a0_0, .int .u16 a0_1] 88 (0, 0)) (by (with_reducible repeat (first | refine blk_drewN ?_ _ | refine blk_drew ?_ | refine blk_alloc ?_ _)); refine blk_far ?_ NB1393_1402.out _; (with_reducible repeat (first | refine blk_drewN ?_ _ | refine blk_drew ?_ | refine blk_alloc ?_ _)); refine blk_far ?_ NB1393_1402.out _; apply_rules [BK1393.out, blk_drewN, blk_drew, blk_alloc]) hb); replace BK1402 := Aside0.mk (blk_below (g := gb1402) (o := .cells #[.string t1399, .string t1400] 38 (0, 0)) (by (with_reducible repeat (first | refine blk_drewN ?_ _ | refine blk_drew ?_ | refine blk_alloc ?_ _)); refine blk_put (cs := #[.string t1399, .string (⟨#[]⟩ : ByteArray)]) ?_ 1 _ rfl; (with_reducible repeat (first | refine blk_drewN ?_ _ | refine blk_drew ?_ | refine blk_alloc ?_ _)); refine blk_put (cs := #[.string (⟨#[]⟩ : ByteArray), .string (⟨#[]⟩ : ByteArray)]) ?_ 0 _ rfl; apply_rules [BK1402.out, blk_drewN, blk_drew, blk_alloc]) hb); replace HB := Aside0.mk (below_step (by apply_rules [HB.out, below_alloc, pw_below_drewN, below_drew1, below_set, GE1393.out, GE1402.out]) hb); (try clear hb); have hcz114_0 : w113.cell? ⟨gb1402, 0, none⟩ = some (.string t1399) := (blk_cell BK1402.out 0).trans rfl; have hcz114_1 : w113.cell? ⟨gb1402, 1, none⟩ = some (.string t1400) := (blk_cell BK1402.out 1).trans rfl; have hfz114_0 := blk_frozen BK1402.out 0; have hfz114_1 := blk_frozen BK1402.out 1))
     go_ret
     exact ⟨by first | rfl | simp [*], by apply_rules [HB.out, below_alloc, pw_below_drewN, below_drew1, below_set, GE1393.out, GE1402.out]⟩
end Go.Proofs.YtccebdpjdpjgnaaGreatDoor.P
