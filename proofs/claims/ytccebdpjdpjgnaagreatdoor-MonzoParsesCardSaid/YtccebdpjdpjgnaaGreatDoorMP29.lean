/-
parts of the walks and of the plain laws: PmonzoOf PfractionText Pmonzosides PdecimalDigits
-/
import Derived.Test.YtccebdpjdpjgnaaGreatDoorMP28
import Derived.Test.YtccebdpjdpjgnaaGreatDoorMP24
import Derived.Test.YtccebdpjdpjgnaaGreatDoorMP26
set_option linter.unusedVariables false
set_option linter.unusedSimpArgs false
section
namespace Go.Proofs.YtccebdpjdpjgnaaGreatDoor.P
open Go.RowKit Go.Proofs.YtccebdpjdpjgnaaGreatDoorW.PrintWords Go.Proofs.YtccebdpjdpjgnaaGreatDoorW.PrintLast Go.Proofs.YtccebdpjdpjgnaaGreatDoorW.PrintMore
attribute [local go_sem] max2_int min2_int max_two min_two max_three min_three max_four min_four
def monzo_Of.l0 : Nat → List Int → ByteArray → ByteArray → List Int → List Int → Int → Int → Option (List Int × Int)
 | 0, _, _, _, _, _, _, _ => none
 | k + 1, x0, x7, x8, x9, x31, x32, x33 => if x33 < x32 then (if 0 ≤ x33 then (if x33 < (x31.length : Int) then ((monzo_exponent.f k x7 (rd x31 x33)).bind fun bt398 => ((monzo_exponent.f k x8 (rd x31 x33)).bind fun bt400 => (if x9.length < 17592186044416 then (monzo_Of.l0 k x0 bt398.1 bt400.1 (x9 ++ [wrap64 (bt398.2 - bt400.2)]) x31 x32 (wrap64 (x33 + 1))) else (none)))) else (none)) else (none)) else (if x7.toList = ([49] : List UInt8) then (if x8.toList = ([49] : List UInt8) then ((monzo_result.f k x0 x9).bind fun bt405 => (some (bt405.1, bt405.2))) else (some (([] : List Int), 25))) else (some (([] : List Int), 25)))
def monzo_Of.f (k : Nat) (l0 : List Int) (a1_0 : ByteArray) (a1_1 : ByteArray) : Option (List Int × Int) := (prime_Check.f k l0).bind fun t394 => (if t394 = 0 then ((fraction_Check.f k a1_0 a1_1).bind fun t395 => (if t395 = 0 then ((fraction_Sign.f a1_0 a1_1).bind fun t396 => (if t396 ≤ 0 then (some (([] : List Int), 3)) else (monzo_Of.l0 k l0 a1_0 a1_1 ([] : List Int) l0 (l0.length : Int) 0))) else (some (([] : List Int), 2)))) else (some (([] : List Int), t394)))
set_option maxHeartbeats 8000000 in
set_option maxRecDepth 100000 in
theorem monzo_Of.calls (k : Nat) (A0 : Option Addr) (c0 : Nat) (l0 : List Int) (a1_0 : ByteArray) (a1_1 : ByteArray) (r1 : List Int) (r2 : Int) (w : World) (hT : TabW w) (hr0 : Kd.C (Kd.int .i64) w A0 l0.length l0) (hc0 : l0.length ≤ c0) (h : monzo_Of.f k l0 a1_0 a1_1 = some (r1, r2)) :
  Calls Tryz.prog 31 #[.slice A0 l0.length c0, .agg #[.string a1_0, .string a1_1]] w fun e w' => ∃ v0_ : Value, e = .returned (.tuple #[v0_, .int .i64 r2]) ∧ Kd.V (Kd.int .i64) 3 w' w.heap.size (fun k_ => (w.heap.size ≤ k_)) v0_ r1 ∧ Below w.heap.size w w' := by
 have hu38 := Tryz.underlying38
 have HR0 := Aside0.mk hr0
 have HC0 := Aside0.mk hc0
 clear hr0 hc0
 have HB := Aside0.mk (Below.refl w.heap.size w)
 have H : ((prime_Check.f k l0).bind fun t394 => (if t394 = 0 then ((fraction_Check.f k a1_0 a1_1).bind fun t395 => (if t395 = 0 then ((fraction_Sign.f a1_0 a1_1).bind fun t396 => (if t396 ≤ 0 then (some (([] : List Int), 3)) else (monzo_Of.l0 k l0 a1_0 a1_1 ([] : List Int) l0 (l0.length : Int) 0))) else (some (([] : List Int), 2)))) else (some (([] : List Int), t394)))) = some (r1, r2) := h
 clear h
 replace H := Option.bind_eq_some_iff.mp H
 obtain ⟨t394, A30, H⟩ := H
 try dsimp only at H
 have A3 := Aside0.mk A30
 clear A30
 by_cases c4 : t394 = 0
 ·rw [if_pos c4] at H
  have c4b0 : (t394 == 0) = true := beq_iff_eq.mpr c4
  have c4b1 : (t394 != 0) = false := bne_eq_false_iff_eq.mpr c4
  clear c4
  replace H := Option.bind_eq_some_iff.mp H
  obtain ⟨t395, A50, H⟩ := H
  try dsimp only at H
  have A5 := Aside0.mk A50
  clear A50
  by_cases c6 : t395 = 0
  ·rw [if_pos c6] at H
   have c6b0 : (t395 == 0) = true := beq_iff_eq.mpr c6
   have c6b1 : (t395 != 0) = false := bne_eq_false_iff_eq.mpr c6
   clear c6
   replace H := Option.bind_eq_some_iff.mp H
   obtain ⟨t396, A70, H⟩ := H
   try dsimp only at H
   have A7 := Aside0.mk A70
   clear A70
   by_cases c8 : t396 ≤ 0
   ·rw [if_pos c8] at H
    have c8b0 : decide (t396 ≤ 0) = true := decide_eq_true c8
    clear c8
    simp only [Option.some.injEq, Prod.mk.injEq] at H
    obtain ⟨rfl, rfl⟩ := H
    go_enter Tryz.func31, Tryz.ntmps31
    go_wp2_with (first | ((with_reducible refine gate_dst (N := 3) rfl ?_); refine box_event ?hg (N := 3) ?hd (cs := #[.string a1_0, .string a1_1]) (t := 38) ?hr ?_; (case hd => rfl); (case hg => rfl); (case hr => go_simp; try rfl); intro gb393 hg w9 hbox hb; have n0_ := Aside0.mk (below_step (by apply_rules [HB.out, below_alloc, pw_below_drewN, below_drew1]) hb); have n1_ := Aside0.mk (hbox); have n2_ := Aside0.mk ((by rw [hg]; exact (below_size (by apply_rules [HB.out, below_alloc, pw_below_drewN, below_drew1])) : w.heap.size ≤ gb393)); have n3_ := Aside0.mk ((by rw [hg]; exact (below_size (by apply_rules [HB.out, below_alloc, pw_below_drewN, below_drew1])) : w.heap.size ≤ gb393)); clear HB; have HB := n0_; have BK393 := n1_; have GW393 := n2_; have GE393 := n3_; clear n0_ n1_ n2_ n3_; clear hb hbox hg) | (go_at_call 29; (with_reducible refine (prime_Check.calls k _ _ l0 t394 _ ?side1 ?side2 A3.out).mono ?_); (case side1 => apply_rules [(Kd.C_below HR0.out HB.out), Kd.C_alloc, Kd.C_drewN, Kd.C_drew]); (case side2 => exact HC0.out); rintro e w' ⟨rfl, ⟨nd, rfl⟩⟩; (try first | exact ⟨rfl, _, World.drewN_drewN _ _ _⟩ | exact ⟨rfl, _, Eq.trans (World.drewN_drewN _ _ _) (congrArg (World.drewN _) (Nat.add_assoc _ _ _))⟩); have hcz10_0 : w9.cell? ⟨gb393, 0, none⟩ = some (.string a1_0) := (blk_cell BK393.out 0).trans rfl; have hcz10_1 : w9.cell? ⟨gb393, 1, none⟩ = some (.string a1_1) := (blk_cell BK393.out 1).trans rfl; have hfz10_0 := blk_frozen BK393.out 0; have hfz10_1 := blk_frozen BK393.out 1) | (go_at_call 98; (with_reducible refine (fraction_Check.calls k a1_0 a1_1 t395 _ ?side1 A5.out).mono ?_); (case side1 => refine TabW.below hT ?_; apply_rules [HB.out, below_alloc, pw_below_drewN, below_drew1, below_set, GE393.out]); rintro e w11 ⟨rfl, hb⟩; replace BK393 := Aside0.mk (blk_below (g := gb393) (o := .cells #[.string a1_0, .string a1_1] 38 (0, 0)) (by apply_rules [BK393.out, blk_drewN, blk_drew, blk_alloc]) hb); replace HB := Aside0.mk (below_step (by apply_rules [HB.out, below_alloc, pw_below_drewN, below_drew1, below_set, GE393.out]) hb); (try clear hb); have hcz12_0 : w11.cell? ⟨gb393, 0, none⟩ = some (.string a1_0) := (blk_cell BK393.out 0).trans rfl; have hcz12_1 : w11.cell? ⟨gb393, 1, none⟩ = some (.string a1_1) := (blk_cell BK393.out 1).trans rfl; have hfz12_0 := blk_frozen BK393.out 0; have hfz12_1 := blk_frozen BK393.out 1) | (go_at_call 99; (with_reducible refine (fraction_Sign.calls a1_0 a1_1 t396 _ A7.out).mono ?_); rintro e w13 ⟨rfl, hb⟩; replace BK393 := Aside0.mk (blk_below (g := gb393) (o := .cells #[.string a1_0, .string a1_1] 38 (0, 0)) (by apply_rules [BK393.out, blk_drewN, blk_drew, blk_alloc]) hb); replace HB := Aside0.mk (below_step (by apply_rules [HB.out, below_alloc, pw_below_drewN, below_drew1, below_set, GE393.out]) hb); (try clear hb)))
    repeat (go_quiet (first | ((with_reducible refine gate_dst (N := 3) rfl ?_); refine box_event ?hg (N := 3) ?hd (cs := #[.string a1_0, .string a1_1]) (t := 38) ?hr ?_; (case hd => rfl); (case hg => rfl); (case hr => go_simp; try rfl); intro gb393 hg w9 hbox hb; have n0_ := Aside0.mk (below_step (by apply_rules [HB.out, below_alloc, pw_below_drewN, below_drew1]) hb); have n1_ := Aside0.mk (hbox); have n2_ := Aside0.mk ((by rw [hg]; exact (below_size (by apply_rules [HB.out, below_alloc, pw_below_drewN, below_drew1])) : w.heap.size ≤ gb393)); have n3_ := Aside0.mk ((by rw [hg]; exact (below_size (by apply_rules [HB.out, below_alloc, pw_below_drewN, below_drew1])) : w.heap.size ≤ gb393)); clear HB; have HB := n0_; have BK393 := n1_; have GW393 := n2_; have GE393 := n3_; clear n0_ n1_ n2_ n3_; clear hb hbox hg) | (go_at_call 29; (with_reducible refine (prime_Check.calls k _ _ l0 t394 _ ?side1 ?side2 A3.out).mono ?_); (case side1 => apply_rules [(Kd.C_below HR0.out HB.out), Kd.C_alloc, Kd.C_drewN, Kd.C_drew]); (case side2 => exact HC0.out); rintro e w' ⟨rfl, ⟨nd, rfl⟩⟩; (try first | exact ⟨rfl, _, World.drewN_drewN _ _ _⟩ | exact ⟨rfl, _, Eq.trans (World.drewN_drewN _ _ _) (congrArg (World.drewN _) (Nat.add_assoc _ _ _))⟩); have hcz10_0 : w9.cell? ⟨gb393, 0, none⟩ = some (.string a1_0) := (blk_cell BK393.out 0).trans rfl; have hcz10_1 : w9.cell? ⟨gb393, 1, none⟩ = some (.string a1_1) := (blk_cell BK393.out 1).trans rfl; have hfz10_0 := blk_frozen BK393.out 0; have hfz10_1 := blk_frozen BK393.out 1) | (go_at_call 98; (with_reducible refine (fraction_Check.calls k a1_0 a1_1 t395 _ ?side1 A5.out).mono ?_); (case side1 => refine TabW.below hT ?_; apply_rules [HB.out, below_alloc, pw_below_drewN, below_drew1, below_set, GE393.out]); rintro e w11 ⟨rfl, hb⟩; replace BK393 := Aside0.mk (blk_below (g := gb393) (o := .cells #[.string a1_0, .string a1_1] 38 (0, 0)) (by apply_rules [BK393.out, blk_drewN, blk_drew, blk_alloc]) hb); replace HB := Aside0.mk (below_step (by apply_rules [HB.out, below_alloc, pw_below_drewN, below_drew1, below_set, GE393.out]) hb); (try clear hb); have hcz12_0 : w11.cell? ⟨gb393, 0, none⟩ = some (.string a1_0) := (blk_cell BK393.out 0).trans rfl; have hcz12_1 : w11.cell? ⟨gb393, 1, none⟩ = some (.string a1_1) := (blk_cell BK393.out 1).trans rfl; have hfz12_0 := blk_frozen BK393.out 0; have hfz12_1 := blk_frozen BK393.out 1) | (go_at_call 99; (with_reducible refine (fraction_Sign.calls a1_0 a1_1 t396 _ A7.out).mono ?_); rintro e w13 ⟨rfl, hb⟩; replace BK393 := Aside0.mk (blk_below (g := gb393) (o := .cells #[.string a1_0, .string a1_1] 38 (0, 0)) (by apply_rules [BK393.out, blk_drewN, blk_drew, blk_alloc]) hb); replace HB := Aside0.mk (below_step (by apply_rules [HB.out, below_alloc, pw_below_drewN, below_drew1, below_set, GE393.out]) hb); (try clear hb))); try go_wp2)
    go_ret2
    exact ⟨(.slice none 0 0), by first | rfl | simp [*], Kd.R_V (base := 0) (ok := fun k_ => w.heap.size ≤ k_) (by first | exact Kd.R_nil _ _ _ _ _ | exact Kd.N_nil _ _ _ _ _ | exact Kd.V_nil _ _ _ _ _ | exact Kd.Q_nil _ _ _ _ _ | exact Kd.S_nil _ _ _ _ _), by apply_rules [HB.out, below_alloc, pw_below_drewN, below_drew1, below_set, GE393.out]⟩
   ·rw [if_neg c8] at H
    have c8b0 : decide (t396 ≤ 0) = false := decide_eq_false c8
    clear c8
    have H' := Aside0.mk H
    clear H
    go_enter Tryz.func31, Tryz.ntmps31
    go_wp2_with (first | ((with_reducible refine gate_dst (N := 3) rfl ?_); refine box_event ?hg (N := 3) ?hd (cs := #[.string a1_0, .string a1_1]) (t := 38) ?hr ?_; (case hd => rfl); (case hg => rfl); (case hr => go_simp; try rfl); intro gb393 hg w14 hbox hb; have n0_ := Aside0.mk (below_step (by apply_rules [HB.out, below_alloc, pw_below_drewN, below_drew1]) hb); have n1_ := Aside0.mk (hbox); have n2_ := Aside0.mk ((by rw [hg]; exact (below_size (by apply_rules [HB.out, below_alloc, pw_below_drewN, below_drew1])) : w.heap.size ≤ gb393)); have n3_ := Aside0.mk ((by rw [hg]; exact (below_size (by apply_rules [HB.out, below_alloc, pw_below_drewN, below_drew1])) : w.heap.size ≤ gb393)); clear HB; have HB := n0_; have BK393 := n1_; have GW393 := n2_; have GE393 := n3_; clear n0_ n1_ n2_ n3_; clear hb hbox hg) | (go_at_call 29; (with_reducible refine (prime_Check.calls k _ _ l0 t394 _ ?side1 ?side2 A3.out).mono ?_); (case side1 => apply_rules [(Kd.C_below HR0.out HB.out), Kd.C_alloc, Kd.C_drewN, Kd.C_drew]); (case side2 => exact HC0.out); rintro e w' ⟨rfl, ⟨nd, rfl⟩⟩; (try first | exact ⟨rfl, _, World.drewN_drewN _ _ _⟩ | exact ⟨rfl, _, Eq.trans (World.drewN_drewN _ _ _) (congrArg (World.drewN _) (Nat.add_assoc _ _ _))⟩); have hcz15_0 : w14.cell? ⟨gb393, 0, none⟩ = some (.string a1_0) := (blk_cell BK393.out 0).trans rfl; have hcz15_1 : w14.cell? ⟨gb393, 1, none⟩ = some (.string a1_1) := (blk_cell BK393.out 1).trans rfl; have hfz15_0 := blk_frozen BK393.out 0; have hfz15_1 := blk_frozen BK393.out 1) | (go_at_call 98; (with_reducible refine (fraction_Check.calls k a1_0 a1_1 t395 _ ?side1 A5.out).mono ?_); (case side1 => refine TabW.below hT ?_; apply_rules [HB.out, below_alloc, pw_below_drewN, below_drew1, below_set, GE393.out]); rintro e w16 ⟨rfl, hb⟩; replace BK393 := Aside0.mk (blk_below (g := gb393) (o := .cells #[.string a1_0, .string a1_1] 38 (0, 0)) (by apply_rules [BK393.out, blk_drewN, blk_drew, blk_alloc]) hb); replace HB := Aside0.mk (below_step (by apply_rules [HB.out, below_alloc, pw_below_drewN, below_drew1, below_set, GE393.out]) hb); (try clear hb); have hcz17_0 : w16.cell? ⟨gb393, 0, none⟩ = some (.string a1_0) := (blk_cell BK393.out 0).trans rfl; have hcz17_1 : w16.cell? ⟨gb393, 1, none⟩ = some (.string a1_1) := (blk_cell BK393.out 1).trans rfl; have hfz17_0 := blk_frozen BK393.out 0; have hfz17_1 := blk_frozen BK393.out 1) | (go_at_call 99; (with_reducible refine (fraction_Sign.calls a1_0 a1_1 t396 _ A7.out).mono ?_); rintro e w18 ⟨rfl, hb⟩; replace BK393 := Aside0.mk (blk_below (g := gb393) (o := .cells #[.string a1_0, .string a1_1] 38 (0, 0)) (by apply_rules [BK393.out, blk_drewN, blk_drew, blk_alloc]) hb); replace HB := Aside0.mk (below_step (by apply_rules [HB.out, below_alloc, pw_below_drewN, below_drew1, below_set, GE393.out]) hb); (try clear hb); have hcz19_0 : w18.cell? ⟨gb393, 0, none⟩ = some (.string a1_0) := (blk_cell BK393.out 0).trans rfl; have hcz19_1 : w18.cell? ⟨gb393, 1, none⟩ = some (.string a1_1) := (blk_cell BK393.out 1).trans rfl; have hfz19_0 := blk_frozen BK393.out 0; have hfz19_1 := blk_frozen BK393.out 1))
    repeat (go_quiet (first | ((with_reducible refine gate_dst (N := 3) rfl ?_); refine box_event ?hg (N := 3) ?hd (cs := #[.string a1_0, .string a1_1]) (t := 38) ?hr ?_; (case hd => rfl); (case hg => rfl); (case hr => go_simp; try rfl); intro gb393 hg w14 hbox hb; have n0_ := Aside0.mk (below_step (by apply_rules [HB.out, below_alloc, pw_below_drewN, below_drew1]) hb); have n1_ := Aside0.mk (hbox); have n2_ := Aside0.mk ((by rw [hg]; exact (below_size (by apply_rules [HB.out, below_alloc, pw_below_drewN, below_drew1])) : w.heap.size ≤ gb393)); have n3_ := Aside0.mk ((by rw [hg]; exact (below_size (by apply_rules [HB.out, below_alloc, pw_below_drewN, below_drew1])) : w.heap.size ≤ gb393)); clear HB; have HB := n0_; have BK393 := n1_; have GW393 := n2_; have GE393 := n3_; clear n0_ n1_ n2_ n3_; clear hb hbox hg) | (go_at_call 29; (with_reducible refine (prime_Check.calls k _ _ l0 t394 _ ?side1 ?side2 A3.out).mono ?_); (case side1 => apply_rules [(Kd.C_below HR0.out HB.out), Kd.C_alloc, Kd.C_drewN, Kd.C_drew]); (case side2 => exact HC0.out); rintro e w' ⟨rfl, ⟨nd, rfl⟩⟩; (try first | exact ⟨rfl, _, World.drewN_drewN _ _ _⟩ | exact ⟨rfl, _, Eq.trans (World.drewN_drewN _ _ _) (congrArg (World.drewN _) (Nat.add_assoc _ _ _))⟩); have hcz15_0 : w14.cell? ⟨gb393, 0, none⟩ = some (.string a1_0) := (blk_cell BK393.out 0).trans rfl; have hcz15_1 : w14.cell? ⟨gb393, 1, none⟩ = some (.string a1_1) := (blk_cell BK393.out 1).trans rfl; have hfz15_0 := blk_frozen BK393.out 0; have hfz15_1 := blk_frozen BK393.out 1) | (go_at_call 98; (with_reducible refine (fraction_Check.calls k a1_0 a1_1 t395 _ ?side1 A5.out).mono ?_); (case side1 => refine TabW.below hT ?_; apply_rules [HB.out, below_alloc, pw_below_drewN, below_drew1, below_set, GE393.out]); rintro e w16 ⟨rfl, hb⟩; replace BK393 := Aside0.mk (blk_below (g := gb393) (o := .cells #[.string a1_0, .string a1_1] 38 (0, 0)) (by apply_rules [BK393.out, blk_drewN, blk_drew, blk_alloc]) hb); replace HB := Aside0.mk (below_step (by apply_rules [HB.out, below_alloc, pw_below_drewN, below_drew1, below_set, GE393.out]) hb); (try clear hb); have hcz17_0 : w16.cell? ⟨gb393, 0, none⟩ = some (.string a1_0) := (blk_cell BK393.out 0).trans rfl; have hcz17_1 : w16.cell? ⟨gb393, 1, none⟩ = some (.string a1_1) := (blk_cell BK393.out 1).trans rfl; have hfz17_0 := blk_frozen BK393.out 0; have hfz17_1 := blk_frozen BK393.out 1) | (go_at_call 99; (with_reducible refine (fraction_Sign.calls a1_0 a1_1 t396 _ A7.out).mono ?_); rintro e w18 ⟨rfl, hb⟩; replace BK393 := Aside0.mk (blk_below (g := gb393) (o := .cells #[.string a1_0, .string a1_1] 38 (0, 0)) (by apply_rules [BK393.out, blk_drewN, blk_drew, blk_alloc]) hb); replace HB := Aside0.mk (below_step (by apply_rules [HB.out, below_alloc, pw_below_drewN, below_drew1, below_set, GE393.out]) hb); (try clear hb); have hcz19_0 : w18.cell? ⟨gb393, 0, none⟩ = some (.string a1_0) := (blk_cell BK393.out 0).trans rfl; have hcz19_1 : w18.cell? ⟨gb393, 1, none⟩ = some (.string a1_1) := (blk_cell BK393.out 1).trans rfl; have hfz19_0 := blk_frozen BK393.out 0; have hfz19_1 := blk_frozen BK393.out 1)); try go_wp2)
    go_loopg [7, 8, 9, 33] k (fun kq v7 v8 v9 v33 w' => ∃ (x7_1 : ByteArray) (x8_1 : ByteArray) (x9_1 : List Int) (x33_1 : Int), v7 = .string x7_1 ∧ v8 = .string x8_1 ∧ v33 = .int .i64 x33_1 ∧ Aside0 (monzo_Of.l0 kq l0 x7_1 x8_1 x9_1 l0 (l0.length : Int) x33_1 = some (r1, r2)) ∧ Aside0 (kq ≤ k) ∧ Aside0 (Kd.R (Kd.int .i64) 3 w' w.heap.size (fun k_ => (w.heap.size ≤ k_)) v9 x9_1) ∧ Aside0 (w'.heap[gb393]? = some (.cells #[.string a1_0, .string a1_1] 38 (0, 0))) ∧ Aside0 (Below w.heap.size w w'))
    case atStart => exact ⟨(a1_0), (a1_1), (([] : List Int)), (0), (by first | rfl | (simp; done) | (simp [*]; done)), (by first | rfl | (simp; done) | (simp [*]; done)), (by first | rfl | (simp; done) | (simp [*]; done)), H', ⟨Nat.le_refl _⟩, ⟨by first | exact Kd.R_nil _ _ _ _ _ | exact Kd.N_nil _ _ _ _ _ | exact Kd.V_nil _ _ _ _ _ | exact Kd.Q_nil _ _ _ _ _ | exact Kd.S_nil _ _ _ _ _⟩, ⟨by apply_rules [BK393.out, blk_drewN, blk_drew, blk_alloc]⟩, ⟨by apply_rules [HB.out, below_alloc, pw_below_drewN, below_drew1, below_set, GE393.out]⟩⟩
    case round =>
     clear H'
     obtain ⟨x7_1, x8_1, x9_1, x33_1, rfl, rfl, rfl, HA, HK1, HO_9, BK393, HB⟩ := hrel
     cases gk with
     | zero => exact absurd HA.out (by simp [monzo_Of.l0])
     | succ k1 =>
      have H := HA.out
      clear HA
      simp only [monzo_Of.l0] at H
      by_cases c20 : x33_1 < (l0.length : Int)
      ·rw [if_pos c20] at H
       have c20b0 : decide (x33_1 < (l0.length : Int)) = true := decide_eq_true c20
       clear c20
       by_cases c21 : 0 ≤ x33_1
       case neg => rw [if_neg c21] at H; exact absurd H (by simp)
       rw [if_pos c21] at H
       have c21b0 : decide (0 ≤ x33_1) = true := decide_eq_true c21
       clear c21
       by_cases c22 : x33_1 < (l0.length : Int)
       case neg => rw [if_neg c22] at H; exact absurd H (by simp)
       rw [if_pos c22] at H
       have c22b0 : decide (x33_1 < (l0.length : Int)) = true := decide_eq_true c22
       clear c22
       replace H := Option.bind_eq_some_iff.mp H
       obtain ⟨⟨t398, t399⟩, A230, H⟩ := H
       try dsimp only at H
       have A23 := Aside0.mk A230
       clear A230
       replace H := Option.bind_eq_some_iff.mp H
       obtain ⟨⟨t400, t401⟩, A240, H⟩ := H
       try dsimp only at H
       have A24 := Aside0.mk A240
       clear A240
       by_cases c25 : x9_1.length < 17592186044416
       case neg => rw [if_neg c25] at H; exact absurd H (by simp)
       rw [if_pos c25] at H
       have LMc25 := Aside0.mk c25
       clear c25
       obtain ⟨y402, hy402⟩ : ∃ y_ : List Int, y_ = (x9_1 ++ [wrap64 (t399 - t401)]) := ⟨_, rfl⟩
       replace H : (monzo_Of.l0 k1 l0 t398 t400 y402 l0 (l0.length : Int) (wrap64 (x33_1 + 1))) = some (r1, r2) := by first | (rw [hy402]; with_reducible exact H) | (have H2_ := (Option.bind_some _ _).symm.trans H; rw [hy402]; with_reducible exact H2_) | (have H2_ := (Option.bind_some _ _).symm.trans H; with_reducible exact H2_) | with_reducible exact H | (rw [hy402]; exact H) | exact H
       have Ny402 := Aside0.mk hy402
       clear hy402
       have H' := Aside0.mk H
       clear H
       have p397 : 0 ≤ (x33_1 : Int) := of_decide_eq_true (by assumption)
       have q397 : x33_1 < (l0.length : Int) := of_decide_eq_true (by assumption)
       obtain ⟨ad397, e397, hx397_0⟩ := Kd.at_int HR0.out x33_1 p397 q397
       cases e397
       replace hx397_0 := (HB.out.cell (World.block_lt_of_cell? w _ hx397_0)).trans hx397_0
       replace p397 := eq_true p397
       replace q397 := eq_true q397
       go_wp2_with (first | (go_at_call 100; (with_reducible refine (monzo_exponent.calls k1 x7_1 (rd l0 x33_1) t398 t399 _ ?side1 A23.out).mono ?_); (case side1 => refine TabW.below hT ?_; apply_rules [HB.out, below_alloc, pw_below_drewN, below_drew1, below_set, GE393.out]); rintro e w26 ⟨rfl, hb⟩; replace HO_9 := Aside0.mk (Kd.R_below (by apply_rules [HO_9.out, Kd.R_alloc, Kd.R_drewN, Kd.R_drew]) hb); replace BK393 := Aside0.mk (blk_below (g := gb393) (o := .cells #[.string a1_0, .string a1_1] 38 (0, 0)) (by apply_rules [BK393.out, blk_drewN, blk_drew, blk_alloc]) hb); replace HB := Aside0.mk (below_step (by apply_rules [HB.out, below_alloc, pw_below_drewN, below_drew1, below_set, GE393.out]) hb); (try clear hb)) | (go_at_call 100; (with_reducible refine (monzo_exponent.calls k1 x8_1 (rd l0 x33_1) t400 t401 _ ?side1 A24.out).mono ?_); (case side1 => refine TabW.below hT ?_; apply_rules [HB.out, below_alloc, pw_below_drewN, below_drew1, below_set, GE393.out]); rintro e w27 ⟨rfl, hb⟩; replace HO_9 := Aside0.mk (Kd.R_below (by apply_rules [HO_9.out, Kd.R_alloc, Kd.R_drewN, Kd.R_drew]) hb); replace BK393 := Aside0.mk (blk_below (g := gb393) (o := .cells #[.string a1_0, .string a1_1] 38 (0, 0)) (by apply_rules [BK393.out, blk_drewN, blk_drew, blk_alloc]) hb); replace HB := Aside0.mk (below_step (by apply_rules [HB.out, below_alloc, pw_below_drewN, below_drew1, below_set, GE393.out]) hb); (try clear hb)) | ((with_reducible refine gate_builtin (b := .append) (xs := #[.tmp 49, .tmp 53]) rfl ?_); at_builtin; refine Kd.R_append (Kd.int .i64) (w0 := w) w.heap.size rfl (.tmp 49) (.tmp 53) 24 3 (.int .i64 0) 8 rfl Tryz.underlying24 info3 rfl (by decide) (by omega) u9 x9_1 (wrap64 (t399 - t401)) [.int .i64 (wrap64 (t399 - t401))] (fun k_ => (w.heap.size ≤ k_)) (fun _ => False) rfl rfl ?aP (fun _ hk => hk.elim) ?aF ?aO ?aB ?aS ?aL ?_; (case aP => exact rfl); (case aB => exact (by apply_rules [HB.out, below_alloc, pw_below_drewN, below_drew1, below_set, GE393.out])); (case aF => exact (fun k_ hk => (Nat.le_trans (below_size (by apply_rules [HB.out, below_alloc, pw_below_drewN, below_drew1, below_set, GE393.out])) hk))); (case aO => exact (by apply_rules [HO_9.out, Kd.R_alloc, Kd.R_drewN, Kd.R_drew])); (case aS => exact (below_size (by apply_rules [HB.out, below_alloc, pw_below_drewN, below_drew1, below_set, GE393.out]))); (case aL => have := LMc25.out; omega); intro v403 w28 ho hb hg hat; rw [← Ny402.out] at ho; replace BK393 := Aside0.mk (blk_grown (g := gb393) (o := .cells #[.string a1_0, .string a1_1] 38 (0, 0)) (by apply_rules [BK393.out, blk_drewN, blk_drew, blk_alloc]) hg (Kd.R_ne HO_9.out BK393.out (by decide))); replace HB := Aside0.mk (hb); have HO404 := Aside0.mk (ho); clear HO_9; clear ho hb hg hat))
       repeat (go_quiet (first | (go_at_call 100; (with_reducible refine (monzo_exponent.calls k1 x7_1 (rd l0 x33_1) t398 t399 _ ?side1 A23.out).mono ?_); (case side1 => refine TabW.below hT ?_; apply_rules [HB.out, below_alloc, pw_below_drewN, below_drew1, below_set, GE393.out]); rintro e w26 ⟨rfl, hb⟩; replace HO_9 := Aside0.mk (Kd.R_below (by apply_rules [HO_9.out, Kd.R_alloc, Kd.R_drewN, Kd.R_drew]) hb); replace BK393 := Aside0.mk (blk_below (g := gb393) (o := .cells #[.string a1_0, .string a1_1] 38 (0, 0)) (by apply_rules [BK393.out, blk_drewN, blk_drew, blk_alloc]) hb); replace HB := Aside0.mk (below_step (by apply_rules [HB.out, below_alloc, pw_below_drewN, below_drew1, below_set, GE393.out]) hb); (try clear hb)) | (go_at_call 100; (with_reducible refine (monzo_exponent.calls k1 x8_1 (rd l0 x33_1) t400 t401 _ ?side1 A24.out).mono ?_); (case side1 => refine TabW.below hT ?_; apply_rules [HB.out, below_alloc, pw_below_drewN, below_drew1, below_set, GE393.out]); rintro e w27 ⟨rfl, hb⟩; replace HO_9 := Aside0.mk (Kd.R_below (by apply_rules [HO_9.out, Kd.R_alloc, Kd.R_drewN, Kd.R_drew]) hb); replace BK393 := Aside0.mk (blk_below (g := gb393) (o := .cells #[.string a1_0, .string a1_1] 38 (0, 0)) (by apply_rules [BK393.out, blk_drewN, blk_drew, blk_alloc]) hb); replace HB := Aside0.mk (below_step (by apply_rules [HB.out, below_alloc, pw_below_drewN, below_drew1, below_set, GE393.out]) hb); (try clear hb)) | ((with_reducible refine gate_builtin (b := .append) (xs := #[.tmp 49, .tmp 53]) rfl ?_); at_builtin; refine Kd.R_append (Kd.int .i64) (w0 := w) w.heap.size rfl (.tmp 49) (.tmp 53) 24 3 (.int .i64 0) 8 rfl Tryz.underlying24 info3 rfl (by decide) (by omega) u9 x9_1 (wrap64 (t399 - t401)) [.int .i64 (wrap64 (t399 - t401))] (fun k_ => (w.heap.size ≤ k_)) (fun _ => False) rfl rfl ?aP (fun _ hk => hk.elim) ?aF ?aO ?aB ?aS ?aL ?_; (case aP => exact rfl); (case aB => exact (by apply_rules [HB.out, below_alloc, pw_below_drewN, below_drew1, below_set, GE393.out])); (case aF => exact (fun k_ hk => (Nat.le_trans (below_size (by apply_rules [HB.out, below_alloc, pw_below_drewN, below_drew1, below_set, GE393.out])) hk))); (case aO => exact (by apply_rules [HO_9.out, Kd.R_alloc, Kd.R_drewN, Kd.R_drew])); (case aS => exact (below_size (by apply_rules [HB.out, below_alloc, pw_below_drewN, below_drew1, below_set, GE393.out]))); (case aL => have := LMc25.out; omega); intro v403 w28 ho hb hg hat; rw [← Ny402.out] at ho; replace BK393 := Aside0.mk (blk_grown (g := gb393) (o := .cells #[.string a1_0, .string a1_1] 38 (0, 0)) (by apply_rules [BK393.out, blk_drewN, blk_drew, blk_alloc]) hg (Kd.R_ne HO_9.out BK393.out (by decide))); replace HB := Aside0.mk (hb); have HO404 := Aside0.mk (ho); clear HO_9; clear ho hb hg hat)); try go_wp2)
       go_roundg k1
       case measure => have := HK1.out; omega
       case rel => exact ⟨(t398), (t400), (y402), (wrap64 (x33_1 + 1)), (by first | rfl | (simp; done) | (simp [*]; done)), (by first | rfl | (simp; done) | (simp [*]; done)), (by first | rfl | (simp; done) | (simp [*]; done)), H', ⟨by have := HK1.out; omega⟩, ⟨by apply_rules [HO404.out, Kd.R_alloc, Kd.R_drewN, Kd.R_drew]⟩, ⟨by apply_rules [BK393.out, blk_drewN, blk_drew, blk_alloc]⟩, ⟨by apply_rules [HB.out, below_alloc, pw_below_drewN, below_drew1, below_set, GE393.out]⟩⟩
      ·rw [if_neg c20] at H
       have c20b0 : decide (x33_1 < (l0.length : Int)) = false := decide_eq_false c20
       clear c20
       by_cases c29 : x7_1.toList = ([49] : List UInt8)
       ·rw [if_pos c29] at H
        have c29b0 : (x7_1.toList == ([49] : List UInt8)) = true := beq_iff_eq.mpr c29
        have c29b1 : (x7_1.toList != ([49] : List UInt8)) = false := bne_eq_false_iff_eq.mpr c29
        clear c29
        by_cases c30 : x8_1.toList = ([49] : List UInt8)
        ·rw [if_pos c30] at H
         have c30b0 : (x8_1.toList == ([49] : List UInt8)) = true := beq_iff_eq.mpr c30
         have c30b1 : (x8_1.toList != ([49] : List UInt8)) = false := bne_eq_false_iff_eq.mpr c30
         clear c30
         replace H := Option.bind_eq_some_iff.mp H
         obtain ⟨⟨t405, t408⟩, A310, H⟩ := H
         try dsimp only at H
         have A31 := Aside0.mk A310
         clear A310
         simp only [Option.some.injEq, Prod.mk.injEq] at H
         obtain ⟨rfl, rfl⟩ := H
         obtain ⟨Ao32, co32, eo32⟩ := Kd.R_slice HO_9.out
         subst eo32
         go_wp2_with (first | (go_at_call 101; (with_reducible refine (monzo_result.calls k1 _ _ l0 (fun k_ => some k_ = (.slice Ao32 x9_1.length co32 : Value).ownBlock) _ _ x9_1 t405 t408 _ ?side1 ?side2 ?side3 A31.out).mono ?_); (case side1 => apply_rules [(Kd.C_below HR0.out HB.out), Kd.C_alloc, Kd.C_drewN, Kd.C_drew]); (case side2 => exact HC0.out); (case side3 => exact Kd.R_V (Kd.R_tight rfl (Kd.R_types (HO_9.out) BK393.out (by decide)))); rintro e w33 ⟨v406, rfl, ho0, hb⟩; have n0_ := Aside0.mk (Kd.R_below (by apply_rules [HO_9.out, Kd.R_alloc, Kd.R_drewN, Kd.R_drew]) hb); have n1_ := Aside0.mk (Kd.V_lower (Kd.V_mono (ok' := fun k_ => (w.heap.size ≤ k_) ∧ k_ ≠ gb393) ho0 (fun k_ hk_ => ⟨Or.elim hk_ (fun hs_ => ((Kd.R_types (HO_9.out) BK393.out (by decide)).1 k_ hs_.symm).1) (fun hn_ => (Nat.le_trans (below_size (by apply_rules [HB.out, below_alloc, pw_below_drewN, below_drew1, below_set, GE393.out])) hn_)), Or.elim hk_ (fun hs_ => ((Kd.R_types (HO_9.out) BK393.out (by decide)).1 k_ hs_.symm).2) (fun hn_ => (Kd.freshB (g := gb393) (o := .cells #[.string a1_0, .string a1_1] 38 (0, 0)) (by apply_rules [BK393.out, blk_drewN, blk_drew, blk_alloc]) k_ hn_))⟩)) (below_size (by apply_rules [HB.out, below_alloc, pw_below_drewN, below_drew1, below_set, GE393.out]))); have n2_ := Aside0.mk (blk_below (g := gb393) (o := .cells #[.string a1_0, .string a1_1] 38 (0, 0)) (by apply_rules [BK393.out, blk_drewN, blk_drew, blk_alloc]) hb); have n3_ := Aside0.mk (below_step (by apply_rules [HB.out, below_alloc, pw_below_drewN, below_drew1, below_set, GE393.out]) hb); clear HO_9; clear BK393; clear HB; have HO_9 := n0_; have HO407 := n1_; have BK393 := n2_; have HB := n3_; clear n0_ n1_ n2_ n3_; (try clear hb); (try clear ho0)))
         repeat (go_quiet (first | (go_at_call 101; (with_reducible refine (monzo_result.calls k1 _ _ l0 (fun k_ => some k_ = (.slice Ao32 x9_1.length co32 : Value).ownBlock) _ _ x9_1 t405 t408 _ ?side1 ?side2 ?side3 A31.out).mono ?_); (case side1 => apply_rules [(Kd.C_below HR0.out HB.out), Kd.C_alloc, Kd.C_drewN, Kd.C_drew]); (case side2 => exact HC0.out); (case side3 => exact Kd.R_V (Kd.R_tight rfl (Kd.R_types (HO_9.out) BK393.out (by decide)))); rintro e w33 ⟨v406, rfl, ho0, hb⟩; have n0_ := Aside0.mk (Kd.R_below (by apply_rules [HO_9.out, Kd.R_alloc, Kd.R_drewN, Kd.R_drew]) hb); have n1_ := Aside0.mk (Kd.V_lower (Kd.V_mono (ok' := fun k_ => (w.heap.size ≤ k_) ∧ k_ ≠ gb393) ho0 (fun k_ hk_ => ⟨Or.elim hk_ (fun hs_ => ((Kd.R_types (HO_9.out) BK393.out (by decide)).1 k_ hs_.symm).1) (fun hn_ => (Nat.le_trans (below_size (by apply_rules [HB.out, below_alloc, pw_below_drewN, below_drew1, below_set, GE393.out])) hn_)), Or.elim hk_ (fun hs_ => ((Kd.R_types (HO_9.out) BK393.out (by decide)).1 k_ hs_.symm).2) (fun hn_ => (Kd.freshB (g := gb393) (o := .cells #[.string a1_0, .string a1_1] 38 (0, 0)) (by apply_rules [BK393.out, blk_drewN, blk_drew, blk_alloc]) k_ hn_))⟩)) (below_size (by apply_rules [HB.out, below_alloc, pw_below_drewN, below_drew1, below_set, GE393.out]))); have n2_ := Aside0.mk (blk_below (g := gb393) (o := .cells #[.string a1_0, .string a1_1] 38 (0, 0)) (by apply_rules [BK393.out, blk_drewN, blk_drew, blk_alloc]) hb); have n3_ := Aside0.mk (below_step (by apply_rules [HB.out, below_alloc, pw_below_drewN, below_drew1, below_set, GE393.out]) hb); clear HO_9; clear BK393; clear HB; have HO_9 := n0_; have HO407 := n1_; have BK393 := n2_; have HB := n3_; clear n0_ n1_ n2_ n3_; (try clear hb); (try clear ho0))); try go_wp2)
         go_ret2
         exact ⟨_, by first | rfl | simp [*], by (with_reducible repeat (first | apply Kd.V_alloc | apply Kd.V_drewN | apply Kd.V_drew)); exact Kd.V_mono HO407.out (fun _ hk => hk.1), by apply_rules [HB.out, below_alloc, pw_below_drewN, below_drew1, below_set, GE393.out]⟩
        ·rw [if_neg c30] at H
         have c30b0 : (x8_1.toList == ([49] : List UInt8)) = false := beq_eq_false_iff_ne.mpr c30
         have c30b1 : (x8_1.toList != ([49] : List UInt8)) = true := bne_iff_ne.mpr c30
         simp only [Option.some.injEq, Prod.mk.injEq] at H
         obtain ⟨rfl, rfl⟩ := H
         go_wp2
         repeat (go_quiet (fail); try go_wp2)
         go_ret2
         exact ⟨(.slice none 0 0), by first | rfl | simp [*], Kd.R_V (base := 0) (ok := fun k_ => w.heap.size ≤ k_) (by first | exact Kd.R_nil _ _ _ _ _ | exact Kd.N_nil _ _ _ _ _ | exact Kd.V_nil _ _ _ _ _ | exact Kd.Q_nil _ _ _ _ _ | exact Kd.S_nil _ _ _ _ _), by apply_rules [HB.out, below_alloc, pw_below_drewN, below_drew1, below_set, GE393.out]⟩
       ·rw [if_neg c29] at H
        have c29b0 : (x7_1.toList == ([49] : List UInt8)) = false := beq_eq_false_iff_ne.mpr c29
        have c29b1 : (x7_1.toList != ([49] : List UInt8)) = true := bne_iff_ne.mpr c29
        simp only [Option.some.injEq, Prod.mk.injEq] at H
        obtain ⟨rfl, rfl⟩ := H
        go_wp2
        repeat (go_quiet (fail); try go_wp2)
        go_ret2
        exact ⟨(.slice none 0 0), by first | rfl | simp [*], Kd.R_V (base := 0) (ok := fun k_ => w.heap.size ≤ k_) (by first | exact Kd.R_nil _ _ _ _ _ | exact Kd.N_nil _ _ _ _ _ | exact Kd.V_nil _ _ _ _ _ | exact Kd.Q_nil _ _ _ _ _ | exact Kd.S_nil _ _ _ _ _), by apply_rules [HB.out, below_alloc, pw_below_drewN, below_drew1, below_set, GE393.out]⟩
  ·rw [if_neg c6] at H
   have c6b0 : (t395 == 0) = false := beq_eq_false_iff_ne.mpr c6
   have c6b1 : (t395 != 0) = true := bne_iff_ne.mpr c6
   simp only [Option.some.injEq, Prod.mk.injEq] at H
   obtain ⟨rfl, rfl⟩ := H
   go_enter Tryz.func31, Tryz.ntmps31
   go_wp2_with (first | ((with_reducible refine gate_dst (N := 3) rfl ?_); refine box_event ?hg (N := 3) ?hd (cs := #[.string a1_0, .string a1_1]) (t := 38) ?hr ?_; (case hd => rfl); (case hg => rfl); (case hr => go_simp; try rfl); intro gb393 hg w34 hbox hb; have n0_ := Aside0.mk (below_step (by apply_rules [HB.out, below_alloc, pw_below_drewN, below_drew1]) hb); have n1_ := Aside0.mk (hbox); have n2_ := Aside0.mk ((by rw [hg]; exact (below_size (by apply_rules [HB.out, below_alloc, pw_below_drewN, below_drew1])) : w.heap.size ≤ gb393)); have n3_ := Aside0.mk ((by rw [hg]; exact (below_size (by apply_rules [HB.out, below_alloc, pw_below_drewN, below_drew1])) : w.heap.size ≤ gb393)); clear HB; have HB := n0_; have BK393 := n1_; have GW393 := n2_; have GE393 := n3_; clear n0_ n1_ n2_ n3_; clear hb hbox hg) | (go_at_call 29; (with_reducible refine (prime_Check.calls k _ _ l0 t394 _ ?side1 ?side2 A3.out).mono ?_); (case side1 => apply_rules [(Kd.C_below HR0.out HB.out), Kd.C_alloc, Kd.C_drewN, Kd.C_drew]); (case side2 => exact HC0.out); rintro e w' ⟨rfl, ⟨nd, rfl⟩⟩; (try first | exact ⟨rfl, _, World.drewN_drewN _ _ _⟩ | exact ⟨rfl, _, Eq.trans (World.drewN_drewN _ _ _) (congrArg (World.drewN _) (Nat.add_assoc _ _ _))⟩); have hcz35_0 : w34.cell? ⟨gb393, 0, none⟩ = some (.string a1_0) := (blk_cell BK393.out 0).trans rfl; have hcz35_1 : w34.cell? ⟨gb393, 1, none⟩ = some (.string a1_1) := (blk_cell BK393.out 1).trans rfl; have hfz35_0 := blk_frozen BK393.out 0; have hfz35_1 := blk_frozen BK393.out 1) | (go_at_call 98; (with_reducible refine (fraction_Check.calls k a1_0 a1_1 t395 _ ?side1 A5.out).mono ?_); (case side1 => refine TabW.below hT ?_; apply_rules [HB.out, below_alloc, pw_below_drewN, below_drew1, below_set, GE393.out]); rintro e w36 ⟨rfl, hb⟩; replace BK393 := Aside0.mk (blk_below (g := gb393) (o := .cells #[.string a1_0, .string a1_1] 38 (0, 0)) (by apply_rules [BK393.out, blk_drewN, blk_drew, blk_alloc]) hb); replace HB := Aside0.mk (below_step (by apply_rules [HB.out, below_alloc, pw_below_drewN, below_drew1, below_set, GE393.out]) hb); (try clear hb)))
   repeat (go_quiet (first | ((with_reducible refine gate_dst (N := 3) rfl ?_); refine box_event ?hg (N := 3) ?hd (cs := #[.string a1_0, .string a1_1]) (t := 38) ?hr ?_; (case hd => rfl); (case hg => rfl); (case hr => go_simp; try rfl); intro gb393 hg w34 hbox hb; have n0_ := Aside0.mk (below_step (by apply_rules [HB.out, below_alloc, pw_below_drewN, below_drew1]) hb); have n1_ := Aside0.mk (hbox); have n2_ := Aside0.mk ((by rw [hg]; exact (below_size (by apply_rules [HB.out, below_alloc, pw_below_drewN, below_drew1])) : w.heap.size ≤ gb393)); have n3_ := Aside0.mk ((by rw [hg]; exact (below_size (by apply_rules [HB.out, below_alloc, pw_below_drewN, below_drew1])) : w.heap.size ≤ gb393)); clear HB; have HB := n0_; have BK393 := n1_; have GW393 := n2_; have GE393 := n3_; clear n0_ n1_ n2_ n3_; clear hb hbox hg) | (go_at_call 29; (with_reducible refine (prime_Check.calls k _ _ l0 t394 _ ?side1 ?side2 A3.out).mono ?_); (case side1 => apply_rules [(Kd.C_below HR0.out HB.out), Kd.C_alloc, Kd.C_drewN, Kd.C_drew]); (case side2 => exact HC0.out); rintro e w' ⟨rfl, ⟨nd, rfl⟩⟩; (try first | exact ⟨rfl, _, World.drewN_drewN _ _ _⟩ | exact ⟨rfl, _, Eq.trans (World.drewN_drewN _ _ _) (congrArg (World.drewN _) (Nat.add_assoc _ _ _))⟩); have hcz35_0 : w34.cell? ⟨gb393, 0, none⟩ = some (.string a1_0) := (blk_cell BK393.out 0).trans rfl; have hcz35_1 : w34.cell? ⟨gb393, 1, none⟩ = some (.string a1_1) := (blk_cell BK393.out 1).trans rfl; have hfz35_0 := blk_frozen BK393.out 0; have hfz35_1 := blk_frozen BK393.out 1) | (go_at_call 98; (with_reducible refine (fraction_Check.calls k a1_0 a1_1 t395 _ ?side1 A5.out).mono ?_); (case side1 => refine TabW.below hT ?_; apply_rules [HB.out, below_alloc, pw_below_drewN, below_drew1, below_set, GE393.out]); rintro e w36 ⟨rfl, hb⟩; replace BK393 := Aside0.mk (blk_below (g := gb393) (o := .cells #[.string a1_0, .string a1_1] 38 (0, 0)) (by apply_rules [BK393.out, blk_drewN, blk_drew, blk_alloc]) hb); replace HB := Aside0.mk (below_step (by apply_rules [HB.out, below_alloc, pw_below_drewN, below_drew1, below_set, GE393.out]) hb); (try clear hb))); try go_wp2)
   go_ret2
   exact ⟨(.slice none 0 0), by first | rfl | simp [*], Kd.R_V (base := 0) (ok := fun k_ => w.heap.size ≤ k_) (by first | exact Kd.R_nil _ _ _ _ _ | exact Kd.N_nil _ _ _ _ _ | exact Kd.V_nil _ _ _ _ _ | exact Kd.Q_nil _ _ _ _ _ | exact Kd.S_nil _ _ _ _ _), by apply_rules [HB.out, below_alloc, pw_below_drewN, below_drew1, below_set, GE393.out]⟩
 ·rw [if_neg c4] at H
  have c4b0 : (t394 == 0) = false := beq_eq_false_iff_ne.mpr c4
  have c4b1 : (t394 != 0) = true := bne_iff_ne.mpr c4
  simp only [Option.some.injEq, Prod.mk.injEq] at H
  obtain ⟨rfl, rfl⟩ := H
  go_enter Tryz.func31, Tryz.ntmps31
  go_wp2_with (first | ((with_reducible refine gate_dst (N := 3) rfl ?_); refine box_event ?hg (N := 3) ?hd (cs := #[.string a1_0, .string a1_1]) (t := 38) ?hr ?_; (case hd => rfl); (case hg => rfl); (case hr => go_simp; try rfl); intro gb393 hg w37 hbox hb; have n0_ := Aside0.mk (below_step (by apply_rules [HB.out, below_alloc, pw_below_drewN, below_drew1]) hb); have n1_ := Aside0.mk (hbox); have n2_ := Aside0.mk ((by rw [hg]; exact (below_size (by apply_rules [HB.out, below_alloc, pw_below_drewN, below_drew1])) : w.heap.size ≤ gb393)); have n3_ := Aside0.mk ((by rw [hg]; exact (below_size (by apply_rules [HB.out, below_alloc, pw_below_drewN, below_drew1])) : w.heap.size ≤ gb393)); clear HB; have HB := n0_; have BK393 := n1_; have GW393 := n2_; have GE393 := n3_; clear n0_ n1_ n2_ n3_; clear hb hbox hg) | (go_at_call 29; (with_reducible refine (prime_Check.calls k _ _ l0 t394 _ ?side1 ?side2 A3.out).mono ?_); (case side1 => apply_rules [(Kd.C_below HR0.out HB.out), Kd.C_alloc, Kd.C_drewN, Kd.C_drew]); (case side2 => exact HC0.out); rintro e w' ⟨rfl, ⟨nd, rfl⟩⟩; (try first | exact ⟨rfl, _, World.drewN_drewN _ _ _⟩ | exact ⟨rfl, _, Eq.trans (World.drewN_drewN _ _ _) (congrArg (World.drewN _) (Nat.add_assoc _ _ _))⟩)))
  repeat (go_quiet (first | ((with_reducible refine gate_dst (N := 3) rfl ?_); refine box_event ?hg (N := 3) ?hd (cs := #[.string a1_0, .string a1_1]) (t := 38) ?hr ?_; (case hd => rfl); (case hg => rfl); (case hr => go_simp; try rfl); intro gb393 hg w37 hbox hb; have n0_ := Aside0.mk (below_step (by apply_rules [HB.out, below_alloc, pw_below_drewN, below_drew1]) hb); have n1_ := Aside0.mk (hbox); have n2_ := Aside0.mk ((by rw [hg]; exact (below_size (by apply_rules [HB.out, below_alloc, pw_below_drewN, below_drew1])) : w.heap.size ≤ gb393)); have n3_ := Aside0.mk ((by rw [hg]; exact (below_size (by apply_rules [HB.out, below_alloc, pw_below_drewN, below_drew1])) : w.heap.size ≤ gb393)); clear HB; have HB := n0_; have BK393 := n1_; have GW393 := n2_; have GE393 := n3_; clear n0_ n1_ n2_ n3_; clear hb hbox hg) | (go_at_call 29; (with_reducible refine (prime_Check.calls k _ _ l0 t394 _ ?side1 ?side2 A3.out).mono ?_); (case side1 => apply_rules [(Kd.C_below HR0.out HB.out), Kd.C_alloc, Kd.C_drewN, Kd.C_drew]); (case side2 => exact HC0.out); rintro e w' ⟨rfl, ⟨nd, rfl⟩⟩; (try first | exact ⟨rfl, _, World.drewN_drewN _ _ _⟩ | exact ⟨rfl, _, Eq.trans (World.drewN_drewN _ _ _) (congrArg (World.drewN _) (Nat.add_assoc _ _ _))⟩))); try go_wp2)
  go_ret2
  exact ⟨(.slice none 0 0), by first | rfl | simp [*], Kd.R_V (base := 0) (ok := fun k_ => w.heap.size ≤ k_) (by first | exact Kd.R_nil _ _ _ _ _ | exact Kd.N_nil _ _ _ _ _ | exact Kd.V_nil _ _ _ _ _ | exact Kd.Q_nil _ _ _ _ _ | exact Kd.S_nil _ _ _ _ _), by apply_rules [HB.out, below_alloc, pw_below_drewN, below_drew1, below_set, GE393.out]⟩
def fraction_Text.f (a0_0 : ByteArray) (a0_1 : ByteArray) : Option (ByteArray) := if a0_1.toList = ([49] : List UInt8) then (some a0_0) else (if a0_0.size + 1 ≤ 9223372036854775807 then (if a0_0.size + 1 + a0_1.size ≤ 9223372036854775807 then (some ((a0_0 ++ (⟨#[47]⟩ : ByteArray)) ++ a0_1)) else (none)) else (none))
set_option maxHeartbeats 8000000 in
set_option maxRecDepth 100000 in
theorem fraction_Text.calls (a0_0 : ByteArray) (a0_1 : ByteArray) (r : ByteArray) (w : World) (h : fraction_Text.f a0_0 a0_1 = some r) :
  Calls Tryz.prog 39 #[.agg #[.string a0_0, .string a0_1]] w fun e w' => e = .returned (.string r) ∧ Below w.heap.size w w' := by
 have hu38 := Tryz.underlying38
 have HB := Aside0.mk (Below.refl w.heap.size w)
 have H : (if a0_1.toList = ([49] : List UInt8) then (some a0_0) else (if a0_0.size + 1 ≤ 9223372036854775807 then (if a0_0.size + 1 + a0_1.size ≤ 9223372036854775807 then (some ((a0_0 ++ (⟨#[47]⟩ : ByteArray)) ++ a0_1)) else (none)) else (none))) = some r := h
 clear h
 by_cases c2 : a0_1.toList = ([49] : List UInt8)
 ·rw [if_pos c2] at H
  have c2b0 : (a0_1.toList == ([49] : List UInt8)) = true := beq_iff_eq.mpr c2
  have c2b1 : (a0_1.toList != ([49] : List UInt8)) = false := bne_eq_false_iff_eq.mpr c2
  clear c2
  obtain rfl := Option.some.inj H
  go_enter Tryz.func39, Tryz.ntmps39
  go_wp2_with (first | ((with_reducible refine gate_dst (N := 1) rfl ?_); refine box_event ?hg (N := 1) ?hd (cs := #[.string a0_0, .string a0_1]) (t := 38) ?hr ?_; (case hd => rfl); (case hg => rfl); (case hr => go_simp; try rfl); intro gb411 hg w3 hbox hb; have n0_ := Aside0.mk (below_step (by apply_rules [HB.out, below_alloc, pw_below_drewN, below_drew1]) hb); have n1_ := Aside0.mk (hbox); have n2_ := Aside0.mk ((by rw [hg]; exact (below_size (by apply_rules [HB.out, below_alloc, pw_below_drewN, below_drew1])) : w.heap.size ≤ gb411)); have n3_ := Aside0.mk ((by rw [hg]; exact (below_size (by apply_rules [HB.out, below_alloc, pw_below_drewN, below_drew1])) : w.heap.size ≤ gb411)); clear HB; have HB := n0_; have BK411 := n1_; have GW411 := n2_; have GE411 := n3_; clear n0_ n1_ n2_ n3_; clear hb hbox hg; have hcz4_0 : w3.cell? ⟨gb411, 0, none⟩ = some (.string a0_0) := (blk_cell BK411.out 0).trans rfl; have hcz4_1 : w3.cell? ⟨gb411, 1, none⟩ = some (.string a0_1) := (blk_cell BK411.out 1).trans rfl; have hfz4_0 := blk_frozen BK411.out 0; have hfz4_1 := blk_frozen BK411.out 1))
  go_ret
  exact ⟨by first | rfl | simp [*], by apply_rules [HB.out, below_alloc, pw_below_drewN, below_drew1, below_set, GE411.out]⟩
 ·rw [if_neg c2] at H
  have c2b0 : (a0_1.toList == ([49] : List UInt8)) = false := beq_eq_false_iff_ne.mpr c2
  have c2b1 : (a0_1.toList != ([49] : List UInt8)) = true := bne_iff_ne.mpr c2
  by_cases c5 : a0_0.size + 1 ≤ 9223372036854775807
  case neg => rw [if_neg c5] at H; exact absurd H (by simp)
  rw [if_pos c5] at H
  have c5b0 := eq_true c5
  have c5b1 : decide (a0_0.size + 1 ≤ 9223372036854775807) = true := decide_eq_true c5
  try have c5b2 : (9223372036854775807 < a0_0.size + 1) = False := eq_false (Nat.not_lt.2 c5)
  by_cases c6 : a0_0.size + 1 + a0_1.size ≤ 9223372036854775807
  case neg => rw [if_neg c6] at H; exact absurd H (by simp)
  rw [if_pos c6] at H
  have c6b0 := eq_true c6
  have c6b1 : decide (a0_0.size + 1 + a0_1.size ≤ 9223372036854775807) = true := decide_eq_true c6
  try have c6b2 : (9223372036854775807 < a0_0.size + 1 + a0_1.size) = False := eq_false (Nat.not_lt.2 c6)
  obtain rfl := Option.some.inj H
  go_enter Tryz.func39, Tryz.ntmps39
  go_wp2_with (first | ((with_reducible refine gate_dst (N := 1) rfl ?_); refine box_event ?hg (N := 1) ?hd (cs := #[.string a0_0, .string a0_1]) (t := 38) ?hr ?_; (case hd => rfl); (case hg => rfl); (case hr => go_simp; try rfl); intro gb411 hg w7 hbox hb; have n0_ := Aside0.mk (below_step (by apply_rules [HB.out, below_alloc, pw_below_drewN, below_drew1]) hb); have n1_ := Aside0.mk (hbox); have n2_ := Aside0.mk ((by rw [hg]; exact (below_size (by apply_rules [HB.out, below_alloc, pw_below_drewN, below_drew1])) : w.heap.size ≤ gb411)); have n3_ := Aside0.mk ((by rw [hg]; exact (below_size (by apply_rules [HB.out, below_alloc, pw_below_drewN, below_drew1])) : w.heap.size ≤ gb411)); clear HB; have HB := n0_; have BK411 := n1_; have GW411 := n2_; have GE411 := n3_; clear n0_ n1_ n2_ n3_; clear hb hbox hg; have hcz8_0 : w7.cell? ⟨gb411, 0, none⟩ = some (.string a0_0) := (blk_cell BK411.out 0).trans rfl; have hcz8_1 : w7.cell? ⟨gb411, 1, none⟩ = some (.string a0_1) := (blk_cell BK411.out 1).trans rfl; have hfz8_0 := blk_frozen BK411.out 0; have hfz8_1 := blk_frozen BK411.out 1))
  go_ret
  exact ⟨by first | rfl | simp [*], by apply_rules [HB.out, below_alloc, pw_below_drewN, below_drew1, below_set, GE411.out]⟩
def monzo_sides.l0 : Nat → List Int → ByteArray → ByteArray → List Int → Int → Int → Option (ByteArray × ByteArray)
 | 0, _, _, _, _, _, _ => none
 | k + 1, x0, x4, x5, x10, x11, x12 => if x12 < x11 then (if 0 ≤ x12 then (if x12 < (x10.length : Int) then (if x12 < (x0.length : Int) then ((decimal_Of.f (IntKind.u64.wrap (rd x0 x12))).bind fun t450 => ((decimal_Power.f k t450 (mx (rd x10 x12) (wrap64 (-(rd x10 x12))))).bind fun bt451 => (if (rd x10 x12) > 0 then ((decimal_Mul.f k x4 bt451.1).bind fun t453 => (monzo_sides.l0 k x0 t453 x5 x10 x11 (wrap64 (x12 + 1)))) else ((decimal_Mul.f k x5 bt451.1).bind fun t454 => (monzo_sides.l0 k x0 x4 t454 x10 x11 (wrap64 (x12 + 1))))))) else (none)) else (none)) else (none)) else (some (x4, x5))
def monzo_sides.f (k : Nat) (l0 : List Int) (l1 : List Int) : Option (ByteArray × ByteArray) := monzo_sides.l0 k l0 (⟨#[49]⟩ : ByteArray) (⟨#[49]⟩ : ByteArray) l1 (l1.length : Int) 0
set_option maxHeartbeats 8000000 in
set_option maxRecDepth 100000 in
theorem monzo_sides.calls (k : Nat) (A0 : Option Addr) (c0 : Nat) (l0 : List Int) (A1 : Option Addr) (c1 : Nat) (l1 : List Int) (r1 : ByteArray) (r2 : ByteArray) (w : World) (hT : TabW w) (hr0 : Kd.C (Kd.int .i64) w A0 l0.length l0) (hc0 : l0.length ≤ c0) (hr1 : Kd.C (Kd.int .i64) w A1 l1.length l1) (hc1 : l1.length ≤ c1) (h : monzo_sides.f k l0 l1 = some (r1, r2)) :
  Calls Tryz.prog 105 #[.slice A0 l0.length c0, .slice A1 l1.length c1] w fun e w' => e = .returned (.tuple #[.string r1, .string r2]) ∧ Below w.heap.size w w' := by
 have HR0 := Aside0.mk hr0
 have HC0 := Aside0.mk hc0
 clear hr0 hc0
 have HR1 := Aside0.mk hr1
 have HC1 := Aside0.mk hc1
 clear hr1 hc1
 have HB := Aside0.mk (Below.refl w.heap.size w)
 have H : (monzo_sides.l0 k l0 (⟨#[49]⟩ : ByteArray) (⟨#[49]⟩ : ByteArray) l1 (l1.length : Int) 0) = some (r1, r2) := h
 clear h
 have H' := Aside0.mk H
 clear H
 go_enter Tryz.func105, Tryz.ntmps105
 go_wp2
 go_loopg [4, 5, 12] k (fun kq v4 v5 v12 w' => ∃ (x4_1 : ByteArray) (x5_1 : ByteArray) (x12_1 : Int), v4 = .string x4_1 ∧ v5 = .string x5_1 ∧ v12 = .int .i64 x12_1 ∧ Aside0 (monzo_sides.l0 kq l0 x4_1 x5_1 l1 (l1.length : Int) x12_1 = some (r1, r2)) ∧ Aside0 (kq ≤ k) ∧ Aside0 (Below w.heap.size w w'))
 case atStart => exact ⟨((⟨#[49]⟩ : ByteArray)), ((⟨#[49]⟩ : ByteArray)), (0), (by first | rfl | (simp; done) | (simp [*]; done)), (by first | rfl | (simp; done) | (simp [*]; done)), (by first | rfl | (simp; done) | (simp [*]; done)), H', ⟨Nat.le_refl _⟩, ⟨by apply_rules [HB.out, below_alloc, pw_below_drewN, below_drew1]⟩⟩
 case round =>
  clear H'
  obtain ⟨x4_1, x5_1, x12_1, rfl, rfl, rfl, HA, HK1, HB⟩ := hrel
  cases gk with
  | zero => exact absurd HA.out (by simp [monzo_sides.l0])
  | succ k1 =>
   have H := HA.out
   clear HA
   simp only [monzo_sides.l0] at H
   by_cases c3 : x12_1 < (l1.length : Int)
   ·rw [if_pos c3] at H
    have c3b0 : decide (x12_1 < (l1.length : Int)) = true := decide_eq_true c3
    clear c3
    by_cases c4 : 0 ≤ x12_1
    case neg => rw [if_neg c4] at H; exact absurd H (by simp)
    rw [if_pos c4] at H
    have c4b0 : decide (0 ≤ x12_1) = true := decide_eq_true c4
    clear c4
    by_cases c5 : x12_1 < (l1.length : Int)
    case neg => rw [if_neg c5] at H; exact absurd H (by simp)
    rw [if_pos c5] at H
    have c5b0 : decide (x12_1 < (l1.length : Int)) = true := decide_eq_true c5
    clear c5
    by_cases c6 : x12_1 < (l0.length : Int)
    case neg => rw [if_neg c6] at H; exact absurd H (by simp)
    rw [if_pos c6] at H
    have c6b0 : decide (x12_1 < (l0.length : Int)) = true := decide_eq_true c6
    clear c6
    replace H := Option.bind_eq_some_iff.mp H
    obtain ⟨t450, A70, H⟩ := H
    try dsimp only at H
    have A7 := Aside0.mk A70
    clear A70
    obtain ⟨ji8, hji8⟩ : ∃ j_ : Int, (mx (rd l1 x12_1) (wrap64 (-(rd l1 x12_1)))) = j_ := ⟨_, rfl⟩
    replace H : ((decimal_Power.f k1 t450 (ji8)).bind fun bt451 => (if (rd l1 x12_1) > 0 then ((decimal_Mul.f k1 x4_1 bt451.1).bind fun t453 => (monzo_sides.l0 k1 l0 t453 x5_1 l1 (l1.length : Int) (wrap64 (x12_1 + 1)))) else ((decimal_Mul.f k1 x5_1 bt451.1).bind fun t454 => (monzo_sides.l0 k1 l0 x4_1 t454 l1 (l1.length : Int) (wrap64 (x12_1 + 1)))))) = some (r1, r2) := by first | (rw [hji8] at H; exact H) | (simp only [hji8] at H ⊢; exact H)
    (try rw [hji8] at A7)
    have hji8_ : (if (rd l1 x12_1) < (wrap64 (-(rd l1 x12_1))) then (wrap64 (-(rd l1 x12_1))) else (rd l1 x12_1)) = ji8 := hji8
    replace H := Option.bind_eq_some_iff.mp H
    obtain ⟨⟨t451, t452⟩, A90, H⟩ := H
    try dsimp only at H
    have A9 := Aside0.mk A90
    clear A90
    by_cases c10 : (rd l1 x12_1) > 0
    ·rw [if_pos c10] at H
     have c10b0 : decide (0 < (rd l1 x12_1)) = true := decide_eq_true c10
     clear c10
     replace H := Option.bind_eq_some_iff.mp H
     obtain ⟨t453, A110, H⟩ := H
     try dsimp only at H
     have A11 := Aside0.mk A110
     clear A110
     have H' := Aside0.mk H
     clear H
     have p448 : 0 ≤ (x12_1 : Int) := of_decide_eq_true (by assumption)
     have q448 : x12_1 < (l1.length : Int) := of_decide_eq_true (by assumption)
     obtain ⟨ad448, e448, hx448_0⟩ := Kd.at_int HR1.out x12_1 p448 q448
     cases e448
     replace hx448_0 := (HB.out.cell (World.block_lt_of_cell? w _ hx448_0)).trans hx448_0
     replace p448 := eq_true p448
     replace q448 := eq_true q448
     have p449 : 0 ≤ (x12_1 : Int) := of_decide_eq_true (by assumption)
     have q449 : x12_1 < (l0.length : Int) := of_decide_eq_true (by assumption)
     obtain ⟨ad449, e449, hx449_0⟩ := Kd.at_int HR0.out x12_1 p449 q449
     cases e449
     replace hx449_0 := (HB.out.cell (World.block_lt_of_cell? w _ hx449_0)).trans hx449_0
     replace p449 := eq_true p449
     replace q449 := eq_true q449
     go_wp2_with (first | ((with_reducible refine gate_callee (f := 169) rfl ?_); refine goesK (some 23) Tryz.func169 [.int .u64 (IntKind.u64.wrap (rd l0 x12_1))] rfl rfl ?_; (with_reducible refine (decimal_Of.calls (IntKind.u64.wrap (rd l0 x12_1)) t450 _ ?side1 A7.out).mono ?_); (case side1 => refine TabW.below hT ?_; apply_rules [HB.out, below_alloc, pw_below_drewN, below_drew1]); rintro e w12 ⟨rfl, hb⟩; refine ⟨_, rfl, ?_⟩; replace HB := Aside0.mk (below_step (by apply_rules [HB.out, below_alloc, pw_below_drewN, below_drew1]) hb); (try clear hb)) | ((with_reducible refine gate_callee (f := 41) rfl ?_); refine goesL_ (some 28) rfl rfl Tryz.func41 (by kernel_rfl) rfl #[.string t450, .int .i64 ji8] rfl (by (try simp only [List.map_toArray, List.map_cons, List.map_nil]); first | done | (simp only [hji8]; rfl) | rfl | (simp only [List.length_drop, List.length_take]; rfl)) ?_; (with_reducible refine (decimal_Power.calls k1 t450 ji8 t451 t452 _ ?side1 A9.out).mono ?_); (case side1 => refine TabW.below hT ?_; apply_rules [HB.out, below_alloc, pw_below_drewN, below_drew1]); rintro e w13 ⟨rfl, hb⟩; refine ⟨_, rfl, ?_⟩; replace HB := Aside0.mk (below_step (by apply_rules [HB.out, below_alloc, pw_below_drewN, below_drew1]) hb); (try clear hb)) | ((with_reducible refine gate_callee (f := 113) rfl ?_); refine goesK (some 35) Tryz.func113 [.string x4_1, .string t451] rfl rfl ?_; (with_reducible refine (decimal_Mul.calls k1 x4_1 t451 t453 _ ?side1 A11.out).mono ?_); (case side1 => refine TabW.below hT ?_; apply_rules [HB.out, below_alloc, pw_below_drewN, below_drew1]); rintro e w14 ⟨rfl, hb⟩; refine ⟨_, rfl, ?_⟩; replace HB := Aside0.mk (below_step (by apply_rules [HB.out, below_alloc, pw_below_drewN, below_drew1]) hb); (try clear hb)))
     go_roundg k1
     case measure => have := HK1.out; omega
     case rel => exact ⟨(t453), (x5_1), (wrap64 (x12_1 + 1)), (by first | rfl | (simp; done) | (simp [*]; done)), (by first | rfl | (simp; done) | (simp [*]; done)), (by first | rfl | (simp; done) | (simp [*]; done)), H', ⟨by have := HK1.out; omega⟩, ⟨by apply_rules [HB.out, below_alloc, pw_below_drewN, below_drew1]⟩⟩
    ·rw [if_neg c10] at H
     have c10b0 : decide (0 < (rd l1 x12_1)) = false := decide_eq_false c10
     clear c10
     replace H := Option.bind_eq_some_iff.mp H
     obtain ⟨t454, A150, H⟩ := H
     try dsimp only at H
     have A15 := Aside0.mk A150
     clear A150
     have H' := Aside0.mk H
     clear H
     have p448 : 0 ≤ (x12_1 : Int) := of_decide_eq_true (by assumption)
     have q448 : x12_1 < (l1.length : Int) := of_decide_eq_true (by assumption)
     obtain ⟨ad448, e448, hx448_0⟩ := Kd.at_int HR1.out x12_1 p448 q448
     cases e448
     replace hx448_0 := (HB.out.cell (World.block_lt_of_cell? w _ hx448_0)).trans hx448_0
     replace p448 := eq_true p448
     replace q448 := eq_true q448
     have p449 : 0 ≤ (x12_1 : Int) := of_decide_eq_true (by assumption)
     have q449 : x12_1 < (l0.length : Int) := of_decide_eq_true (by assumption)
     obtain ⟨ad449, e449, hx449_0⟩ := Kd.at_int HR0.out x12_1 p449 q449
     cases e449
     replace hx449_0 := (HB.out.cell (World.block_lt_of_cell? w _ hx449_0)).trans hx449_0
     replace p449 := eq_true p449
     replace q449 := eq_true q449
     go_wp2_with (first | ((with_reducible refine gate_callee (f := 169) rfl ?_); refine goesK (some 23) Tryz.func169 [.int .u64 (IntKind.u64.wrap (rd l0 x12_1))] rfl rfl ?_; (with_reducible refine (decimal_Of.calls (IntKind.u64.wrap (rd l0 x12_1)) t450 _ ?side1 A7.out).mono ?_); (case side1 => refine TabW.below hT ?_; apply_rules [HB.out, below_alloc, pw_below_drewN, below_drew1]); rintro e w16 ⟨rfl, hb⟩; refine ⟨_, rfl, ?_⟩; replace HB := Aside0.mk (below_step (by apply_rules [HB.out, below_alloc, pw_below_drewN, below_drew1]) hb); (try clear hb)) | ((with_reducible refine gate_callee (f := 41) rfl ?_); refine goesL_ (some 28) rfl rfl Tryz.func41 (by kernel_rfl) rfl #[.string t450, .int .i64 ji8] rfl (by (try simp only [List.map_toArray, List.map_cons, List.map_nil]); first | done | (simp only [hji8]; rfl) | rfl | (simp only [List.length_drop, List.length_take]; rfl)) ?_; (with_reducible refine (decimal_Power.calls k1 t450 ji8 t451 t452 _ ?side1 A9.out).mono ?_); (case side1 => refine TabW.below hT ?_; apply_rules [HB.out, below_alloc, pw_below_drewN, below_drew1]); rintro e w17 ⟨rfl, hb⟩; refine ⟨_, rfl, ?_⟩; replace HB := Aside0.mk (below_step (by apply_rules [HB.out, below_alloc, pw_below_drewN, below_drew1]) hb); (try clear hb)) | ((with_reducible refine gate_callee (f := 113) rfl ?_); refine goesK (some 38) Tryz.func113 [.string x5_1, .string t451] rfl rfl ?_; (with_reducible refine (decimal_Mul.calls k1 x5_1 t451 t454 _ ?side1 A15.out).mono ?_); (case side1 => refine TabW.below hT ?_; apply_rules [HB.out, below_alloc, pw_below_drewN, below_drew1]); rintro e w18 ⟨rfl, hb⟩; refine ⟨_, rfl, ?_⟩; replace HB := Aside0.mk (below_step (by apply_rules [HB.out, below_alloc, pw_below_drewN, below_drew1]) hb); (try clear hb)))
     go_roundg k1
     case measure => have := HK1.out; omega
     case rel => exact ⟨(x4_1), (t454), (wrap64 (x12_1 + 1)), (by first | rfl | (simp; done) | (simp [*]; done)), (by first | rfl | (simp; done) | (simp [*]; done)), (by first | rfl | (simp; done) | (simp [*]; done)), H', ⟨by have := HK1.out; omega⟩, ⟨by apply_rules [HB.out, below_alloc, pw_below_drewN, below_drew1]⟩⟩
   ·rw [if_neg c3] at H
    have c3b0 : decide (x12_1 < (l1.length : Int)) = false := decide_eq_false c3
    clear c3
    simp only [Option.some.injEq, Prod.mk.injEq] at H
    obtain ⟨rfl, rfl⟩ := H
    go_wp2
    go_ret2
    exact ⟨by first | rfl | simp [*], by apply_rules [HB.out, below_alloc, pw_below_drewN, below_drew1]⟩
def decimal_Digits.f (a0 : ByteArray) : Option (Int) := some (a0.size : Int)
set_option maxHeartbeats 8000000 in
set_option maxRecDepth 100000 in
theorem decimal_Digits.calls (a0 : ByteArray) (r : Int) (w : World) (h : decimal_Digits.f a0 = some r) :
  Calls Tryz.prog 170 #[.string a0] w fun e w' => e = .returned (.int .i64 r) ∧ Drawn0 w w' := by
 have H : (some (a0.size : Int)) = some r := h
 clear h
 obtain rfl := Option.some.inj H
 go_enter Tryz.func170, Tryz.ntmps170
 go_wp2
 go_ret
 exact ⟨by first | rfl | (simp; done) | (simp [*]; done), by repeat (first | exact Drawn0.refl _ | apply Drawn0.step)⟩
end Go.Proofs.YtccebdpjdpjgnaaGreatDoor.P
end
