/-
parts of the walks and of the plain laws: Pschismaref03From Pschismaref03Int Pschismaref03Of
-/
import Derived.Test.YtccebdpjdpjgnaaGreatDoorPV34
set_option linter.unusedVariables false
set_option linter.unusedSimpArgs false
section
namespace Go.Proofs.YtccebdpjdpjgnaaGreatDoor.P
open Go.RowKit Go.Proofs.YtccebdpjdpjgnaaGreatDoorW.PrintWords Go.Proofs.YtccebdpjdpjgnaaGreatDoorW.PrintLast Go.Proofs.YtccebdpjdpjgnaaGreatDoorW.PrintMore
attribute [local go_sem] max2_int min2_int max_two min_two max_three min_three max_four min_four
def schismaref03_From.l0 : Nat → ByteArray → Int → Bool → List Int → Option (ByteArray)
 | 0, _, _, _, _ => none
 | k + 1, x3, x4, x1262000, x1262001 => if x4 < (x1262001.length : Int) then (if 0 ≤ x4 then ((strconv_Itoa.f (rd x1262001 x4)).bind fun t1263 => (if (wrap64 (x4 + 1)) < (x1262001.length : Int) then ((strings_Repeat.f (⟨#[48]⟩ : ByteArray) (wrap64 (9 - (t1263.size : Int)))).bind fun t1264 => (if t1264.size + t1263.size ≤ 9223372036854775807 then (if t1264.size + t1263.size + x3.size ≤ 9223372036854775807 then (schismaref03_From.l0 k ((t1264 ++ t1263) ++ x3) (wrap64 (x4 + 1)) x1262000 x1262001) else (none)) else (none))) else (if t1263.size + x3.size ≤ 9223372036854775807 then (schismaref03_From.l0 k (t1263 ++ x3) (wrap64 (x4 + 1)) x1262000 x1262001) else (none)))) else (none)) else (if x1262000 = true then (if 1 + x3.size ≤ 9223372036854775807 then (some ((⟨#[45]⟩ : ByteArray) ++ x3)) else (none)) else (some x3))
def schismaref03_From.f (k : Nat) (a0_0 : Bool) (l0_1 : List Int) : Option (ByteArray) := if (l0_1.length : Int) = 0 then (some (⟨#[48]⟩ : ByteArray)) else (schismaref03_From.l0 k (⟨#[]⟩ : ByteArray) 0 a0_0 l0_1)
set_option maxHeartbeats 8000000 in
set_option maxRecDepth 100000 in
theorem schismaref03_From.calls (k : Nat) (a0_0 : Bool) (A0_1 : Option Addr) (c0_1 : Nat) (l0_1 : List Int) (r : ByteArray) (w : World) (hT : TabW w) (hr0_1 : Kd.C (Kd.int .i64) w A0_1 l0_1.length l0_1) (hc0_1 : l0_1.length ≤ c0_1) (h : schismaref03_From.f k a0_0 l0_1 = some r) :
  Calls Tryz.prog 76 #[.agg #[.bool a0_0, .slice A0_1 l0_1.length c0_1]] w fun e w' => e = .returned (.string r) ∧ Below w.heap.size w w' := by
 have hu101 := Tryz.underlying101
 have HR0_1 := Aside0.mk hr0_1
 have HC0_1 := Aside0.mk hc0_1
 clear hr0_1 hc0_1
 have HB := Aside0.mk (Below.refl w.heap.size w)
 have H : (if (l0_1.length : Int) = 0 then (some (⟨#[48]⟩ : ByteArray)) else (schismaref03_From.l0 k (⟨#[]⟩ : ByteArray) 0 a0_0 l0_1)) = some r := h
 clear h
 by_cases c2 : (l0_1.length : Int) = 0
 ·rw [if_pos c2] at H
  have c2b0 : ((l0_1.length : Int) == 0) = true := beq_iff_eq.mpr c2
  have c2b1 : ((l0_1.length : Int) != 0) = false := bne_eq_false_iff_eq.mpr c2
  clear c2
  obtain rfl := Option.some.inj H
  go_enter Tryz.func76, Tryz.ntmps76
  go_wp2_with (first | ((with_reducible refine gate_dst (N := 1) rfl ?_); refine box_event ?hg (N := 1) ?hd (cs := #[.bool a0_0, .slice A0_1 l0_1.length c0_1]) (t := 101) ?hr ?_; (case hd => rfl); (case hg => rfl); (case hr => go_simp; try rfl); intro gb1261 hg w3 hbox hb; have n0_ := Aside0.mk (below_step (by apply_rules [HB.out, below_alloc, pw_below_drewN, below_drew1]) hb); have n1_ := Aside0.mk (hbox); have n2_ := Aside0.mk ((by rw [hg]; exact (below_size (by apply_rules [HB.out, below_alloc, pw_below_drewN, below_drew1])) : w.heap.size ≤ gb1261)); have n3_ := Aside0.mk ((by rw [hg]; exact (below_size (by apply_rules [HB.out, below_alloc, pw_below_drewN, below_drew1])) : w.heap.size ≤ gb1261)); clear HB; have HB := n0_; have BK1261 := n1_; have GW1261 := n2_; have GE1261 := n3_; clear n0_ n1_ n2_ n3_; clear hb hbox hg; have hcz4_0 : w3.cell? ⟨gb1261, 0, none⟩ = some (.bool a0_0) := (blk_cell BK1261.out 0).trans rfl; have hcz4_1 : w3.cell? ⟨gb1261, 1, none⟩ = some (.slice A0_1 l0_1.length c0_1) := (blk_cell BK1261.out 1).trans rfl; have hfz4_0 := blk_frozen BK1261.out 0; have hfz4_1 := blk_frozen BK1261.out 1))
  go_ret
  exact ⟨by first | rfl | simp [*], by apply_rules [HB.out, below_alloc, pw_below_drewN, below_drew1, below_set, GE1261.out]⟩
 ·rw [if_neg c2] at H
  have c2b0 : ((l0_1.length : Int) == 0) = false := beq_eq_false_iff_ne.mpr c2
  have c2b1 : ((l0_1.length : Int) != 0) = true := bne_iff_ne.mpr c2
  have c2b2 : ¬ (l0_1 = []) := fun h_ => c2 (by rw [h_]; rfl)
  have H' := Aside0.mk H
  clear H
  go_enter Tryz.func76, Tryz.ntmps76
  go_wp2_with (first | ((with_reducible refine gate_dst (N := 1) rfl ?_); refine box_event ?hg (N := 1) ?hd (cs := #[.bool a0_0, .slice A0_1 l0_1.length c0_1]) (t := 101) ?hr ?_; (case hd => rfl); (case hg => rfl); (case hr => go_simp; try rfl); intro gb1261 hg w5 hbox hb; have n0_ := Aside0.mk (below_step (by apply_rules [HB.out, below_alloc, pw_below_drewN, below_drew1]) hb); have n1_ := Aside0.mk (hbox); have n2_ := Aside0.mk ((by rw [hg]; exact (below_size (by apply_rules [HB.out, below_alloc, pw_below_drewN, below_drew1])) : w.heap.size ≤ gb1261)); have n3_ := Aside0.mk ((by rw [hg]; exact (below_size (by apply_rules [HB.out, below_alloc, pw_below_drewN, below_drew1])) : w.heap.size ≤ gb1261)); clear HB; have HB := n0_; have BK1261 := n1_; have GW1261 := n2_; have GE1261 := n3_; clear n0_ n1_ n2_ n3_; clear hb hbox hg; have hcz6_0 : w5.cell? ⟨gb1261, 0, none⟩ = some (.bool a0_0) := (blk_cell BK1261.out 0).trans rfl; have hcz6_1 : w5.cell? ⟨gb1261, 1, none⟩ = some (.slice A0_1 l0_1.length c0_1) := (blk_cell BK1261.out 1).trans rfl; have hfz6_0 := blk_frozen BK1261.out 0; have hfz6_1 := blk_frozen BK1261.out 1))
  go_loopg [3, 4] k (fun kq v3 v4 w' => ∃ (x3_1 : ByteArray) (x4_1 : Int), v3 = .string x3_1 ∧ v4 = .int .i64 x4_1 ∧ Aside0 (schismaref03_From.l0 kq x3_1 x4_1 a0_0 l0_1 = some r) ∧ Aside0 (kq ≤ k) ∧ Aside0 (w'.heap[gb1261]? = some (.cells #[.bool a0_0, (.slice A0_1 l0_1.length c0_1)] 101 (0, 0))) ∧ Aside0 (Below w.heap.size w w'))
  case atStart => exact ⟨((⟨#[]⟩ : ByteArray)), (0), (by first | rfl | (simp; done) | (simp [*]; done)), (by first | rfl | (simp; done) | (simp [*]; done)), H', ⟨Nat.le_refl _⟩, ⟨by apply_rules [BK1261.out, blk_drewN, blk_drew, blk_alloc]⟩, ⟨by apply_rules [HB.out, below_alloc, pw_below_drewN, below_drew1, below_set, GE1261.out]⟩⟩
  case round =>
   clear H'
   obtain ⟨x3_1, x4_1, rfl, rfl, HA, HK1, BK1261, HB⟩ := hrel
   cases gk with
   | zero => exact absurd HA.out (by simp [schismaref03_From.l0])
   | succ k1 =>
    have H := HA.out
    clear HA
    simp only [schismaref03_From.l0] at H
    by_cases c7 : x4_1 < (l0_1.length : Int)
    ·rw [if_pos c7] at H
     have c7b0 : decide (x4_1 < (l0_1.length : Int)) = true := decide_eq_true c7
     clear c7
     by_cases c8 : 0 ≤ x4_1
     case neg => rw [if_neg c8] at H; exact absurd H (by simp)
     rw [if_pos c8] at H
     have c8b0 : decide (0 ≤ x4_1) = true := decide_eq_true c8
     clear c8
     replace H := Option.bind_eq_some_iff.mp H
     obtain ⟨t1263, A90, H⟩ := H
     try dsimp only at H
     have A9 := Aside0.mk A90
     clear A90
     by_cases c10 : (wrap64 (x4_1 + 1)) < (l0_1.length : Int)
     ·rw [if_pos c10] at H
      have c10b0 : decide ((wrap64 (x4_1 + 1)) < (l0_1.length : Int)) = true := decide_eq_true c10
      clear c10
      replace H := Option.bind_eq_some_iff.mp H
      obtain ⟨t1264, A110, H⟩ := H
      try dsimp only at H
      have A11 := Aside0.mk A110
      clear A110
      by_cases c12 : t1264.size + t1263.size ≤ 9223372036854775807
      case neg => rw [if_neg c12] at H; exact absurd H (by simp)
      rw [if_pos c12] at H
      have c12b0 := eq_true c12
      have c12b1 : decide (t1264.size + t1263.size ≤ 9223372036854775807) = true := decide_eq_true c12
      try have c12b2 : (9223372036854775807 < t1264.size + t1263.size) = False := eq_false (Nat.not_lt.2 c12)
      by_cases c13 : t1264.size + t1263.size + x3_1.size ≤ 9223372036854775807
      case neg => rw [if_neg c13] at H; exact absurd H (by simp)
      rw [if_pos c13] at H
      have c13b0 := eq_true c13
      have c13b1 : decide (t1264.size + t1263.size + x3_1.size ≤ 9223372036854775807) = true := decide_eq_true c13
      try have c13b2 : (9223372036854775807 < t1264.size + t1263.size + x3_1.size) = False := eq_false (Nat.not_lt.2 c13)
      have H' := Aside0.mk H
      clear H
      have hcz14_0 : wr.cell? ⟨gb1261, 0, none⟩ = some (.bool a0_0) := (blk_cell BK1261.out 0).trans rfl
      have hcz14_1 : wr.cell? ⟨gb1261, 1, none⟩ = some (.slice A0_1 l0_1.length c0_1) := (blk_cell BK1261.out 1).trans rfl
      have hfz14_0 := blk_frozen BK1261.out 0
      have hfz14_1 := blk_frozen BK1261.out 1
      have p1262 : 0 ≤ (x4_1 : Int) := of_decide_eq_true (by assumption)
      have q1262 : x4_1 < (l0_1.length : Int) := of_decide_eq_true (by assumption)
      obtain ⟨ad1262, e1262, hx1262_0⟩ := Kd.at_int HR0_1.out x4_1 p1262 q1262
      cases e1262
      replace hx1262_0 := (HB.out.cell (World.block_lt_of_cell? w _ hx1262_0)).trans hx1262_0
      replace p1262 := eq_true p1262
      replace q1262 := eq_true q1262
      have ew_ : wrap64 (9 - (t1263.size : Int)) = 9 - (t1263.size : Int) := by unfold wrap64; omega
      have A_ := A11.out
      rw [ew_] at A_
      clear A11 ew_
      have A11 := Aside0.mk A_
      clear A_
      go_wp2_with (first | ((with_reducible refine gate_callee (f := 96) rfl ?_); refine goesK (some 22) Tryz.func96 [.int .i64 (rd l0_1 x4_1)] rfl rfl ?_; (with_reducible refine (strconv_Itoa.calls (rd l0_1 x4_1) t1263 _ ?side1 A9.out).mono ?_); (case side1 => refine TabW.below hT ?_; apply_rules [HB.out, below_alloc, pw_below_drewN, below_drew1, below_set, GE1261.out]); rintro e w15 ⟨rfl, hb⟩; refine ⟨_, rfl, ?_⟩; replace BK1261 := Aside0.mk (blk_below (g := gb1261) (o := .cells #[.bool a0_0, .slice (some ad1262) l0_1.length c0_1] 101 (0, 0)) (by apply_rules [BK1261.out, blk_drewN, blk_drew, blk_alloc]) hb); replace HB := Aside0.mk (below_step (by apply_rules [HB.out, below_alloc, pw_below_drewN, below_drew1, below_set, GE1261.out]) hb); (try clear hb); have hcz16_0 : w15.cell? ⟨gb1261, 0, none⟩ = some (.bool a0_0) := (blk_cell BK1261.out 0).trans rfl; have hcz16_1 : w15.cell? ⟨gb1261, 1, none⟩ = some (.slice (some ad1262) l0_1.length c0_1) := (blk_cell BK1261.out 1).trans rfl; have hfz16_0 := blk_frozen BK1261.out 0; have hfz16_1 := blk_frozen BK1261.out 1) | ((with_reducible refine gate_callee (f := 134) rfl ?_); refine goesK (some 32) Tryz.func134 [.string (⟨#[48]⟩ : ByteArray), .int .i64 (9 - (t1263.size : Int))] rfl rfl ?_; (with_reducible refine (strings_Repeat.calls (⟨#[48]⟩ : ByteArray) (9 - (t1263.size : Int)) t1264 _ A11.out).mono ?_); rintro e w17 ⟨rfl, hb⟩; refine ⟨_, rfl, ?_⟩; replace BK1261 := Aside0.mk (blk_below (g := gb1261) (o := .cells #[.bool a0_0, .slice (some ad1262) l0_1.length c0_1] 101 (0, 0)) (by apply_rules [BK1261.out, blk_drewN, blk_drew, blk_alloc]) hb); replace HB := Aside0.mk (below_step (by apply_rules [HB.out, below_alloc, pw_below_drewN, below_drew1, below_set, GE1261.out]) hb); (try clear hb)))
      go_roundg k1
      case measure => have := HK1.out; omega
      case rel => exact ⟨((t1264 ++ t1263) ++ x3_1), (wrap64 (x4_1 + 1)), (by first | rfl | (simp; done) | (simp [*]; done)), (by first | rfl | (simp; done) | (simp [*]; done)), H', ⟨by have := HK1.out; omega⟩, ⟨by apply_rules [BK1261.out, blk_drewN, blk_drew, blk_alloc]⟩, ⟨by apply_rules [HB.out, below_alloc, pw_below_drewN, below_drew1, below_set, GE1261.out]⟩⟩
     ·rw [if_neg c10] at H
      have c10b0 : decide ((wrap64 (x4_1 + 1)) < (l0_1.length : Int)) = false := decide_eq_false c10
      clear c10
      by_cases c18 : t1263.size + x3_1.size ≤ 9223372036854775807
      case neg => rw [if_neg c18] at H; exact absurd H (by simp)
      rw [if_pos c18] at H
      have c18b0 := eq_true c18
      have c18b1 : decide (t1263.size + x3_1.size ≤ 9223372036854775807) = true := decide_eq_true c18
      try have c18b2 : (9223372036854775807 < t1263.size + x3_1.size) = False := eq_false (Nat.not_lt.2 c18)
      have H' := Aside0.mk H
      clear H
      have hcz19_0 : wr.cell? ⟨gb1261, 0, none⟩ = some (.bool a0_0) := (blk_cell BK1261.out 0).trans rfl
      have hcz19_1 : wr.cell? ⟨gb1261, 1, none⟩ = some (.slice A0_1 l0_1.length c0_1) := (blk_cell BK1261.out 1).trans rfl
      have hfz19_0 := blk_frozen BK1261.out 0
      have hfz19_1 := blk_frozen BK1261.out 1
      have p1262 : 0 ≤ (x4_1 : Int) := of_decide_eq_true (by assumption)
      have q1262 : x4_1 < (l0_1.length : Int) := of_decide_eq_true (by assumption)
      obtain ⟨ad1262, e1262, hx1262_0⟩ := Kd.at_int HR0_1.out x4_1 p1262 q1262
      cases e1262
      replace hx1262_0 := (HB.out.cell (World.block_lt_of_cell? w _ hx1262_0)).trans hx1262_0
      replace p1262 := eq_true p1262
      replace q1262 := eq_true q1262
      go_wp2_with (first | ((with_reducible refine gate_callee (f := 96) rfl ?_); refine goesK (some 22) Tryz.func96 [.int .i64 (rd l0_1 x4_1)] rfl rfl ?_; (with_reducible refine (strconv_Itoa.calls (rd l0_1 x4_1) t1263 _ ?side1 A9.out).mono ?_); (case side1 => refine TabW.below hT ?_; apply_rules [HB.out, below_alloc, pw_below_drewN, below_drew1, below_set, GE1261.out]); rintro e w20 ⟨rfl, hb⟩; refine ⟨_, rfl, ?_⟩; replace BK1261 := Aside0.mk (blk_below (g := gb1261) (o := .cells #[.bool a0_0, .slice (some ad1262) l0_1.length c0_1] 101 (0, 0)) (by apply_rules [BK1261.out, blk_drewN, blk_drew, blk_alloc]) hb); replace HB := Aside0.mk (below_step (by apply_rules [HB.out, below_alloc, pw_below_drewN, below_drew1, below_set, GE1261.out]) hb); (try clear hb); have hcz21_0 : w20.cell? ⟨gb1261, 0, none⟩ = some (.bool a0_0) := (blk_cell BK1261.out 0).trans rfl; have hcz21_1 : w20.cell? ⟨gb1261, 1, none⟩ = some (.slice (some ad1262) l0_1.length c0_1) := (blk_cell BK1261.out 1).trans rfl; have hfz21_0 := blk_frozen BK1261.out 0; have hfz21_1 := blk_frozen BK1261.out 1))
      go_roundg k1
      case measure => have := HK1.out; omega
      case rel => exact ⟨(t1263 ++ x3_1), (wrap64 (x4_1 + 1)), (by first | rfl | (simp; done) | (simp [*]; done)), (by first | rfl | (simp; done) | (simp [*]; done)), H', ⟨by have := HK1.out; omega⟩, ⟨by apply_rules [BK1261.out, blk_drewN, blk_drew, blk_alloc]⟩, ⟨by apply_rules [HB.out, below_alloc, pw_below_drewN, below_drew1, below_set, GE1261.out]⟩⟩
    ·rw [if_neg c7] at H
     have c7b0 : decide (x4_1 < (l0_1.length : Int)) = false := decide_eq_false c7
     clear c7
     by_cases c22 : a0_0 = true
     ·subst c22
      have H1 : (if 1 + x3_1.size ≤ 9223372036854775807 then (some ((⟨#[45]⟩ : ByteArray) ++ x3_1)) else (none)) = some r := by rw [if_pos rfl] at H; exact H
      clear H
      have H := H1
      clear H1
      by_cases c23 : 1 + x3_1.size ≤ 9223372036854775807
      case neg => rw [if_neg c23] at H; exact absurd H (by simp)
      rw [if_pos c23] at H
      have c23b0 := eq_true c23
      have c23b1 : decide (1 + x3_1.size ≤ 9223372036854775807) = true := decide_eq_true c23
      try have c23b2 : (9223372036854775807 < 1 + x3_1.size) = False := eq_false (Nat.not_lt.2 c23)
      obtain rfl := Option.some.inj H
      have hcz24_0 : wr.cell? ⟨gb1261, 0, none⟩ = some (.bool true) := (blk_cell BK1261.out 0).trans rfl
      have hcz24_1 : wr.cell? ⟨gb1261, 1, none⟩ = some (.slice A0_1 l0_1.length c0_1) := (blk_cell BK1261.out 1).trans rfl
      have hfz24_0 := blk_frozen BK1261.out 0
      have hfz24_1 := blk_frozen BK1261.out 1
      go_wp2
      go_ret
      exact ⟨by first | rfl | simp [*], by apply_rules [HB.out, below_alloc, pw_below_drewN, below_drew1, below_set, GE1261.out]⟩
     ·replace c22 := Bool.eq_false_iff.mpr c22
      subst c22
      have H1 : (some x3_1) = some r := by rw [if_neg (show ¬ (false = true) by decide)] at H; exact H
      clear H
      have H := H1
      clear H1
      obtain rfl := Option.some.inj H
      have hcz25_0 : wr.cell? ⟨gb1261, 0, none⟩ = some (.bool false) := (blk_cell BK1261.out 0).trans rfl
      have hcz25_1 : wr.cell? ⟨gb1261, 1, none⟩ = some (.slice A0_1 l0_1.length c0_1) := (blk_cell BK1261.out 1).trans rfl
      have hfz25_0 := blk_frozen BK1261.out 0
      have hfz25_1 := blk_frozen BK1261.out 1
      go_wp2
      go_ret
      exact ⟨by first | rfl | simp [*], by apply_rules [HB.out, below_alloc, pw_below_drewN, below_drew1, below_set, GE1261.out]⟩
def schismaref03_Int.f (a0 : Int) : Option (ByteArray) := (strconv_Itoa.f a0).bind fun t1285 => (some t1285)
set_option maxHeartbeats 8000000 in
set_option maxRecDepth 100000 in
theorem schismaref03_Int.calls (a0 : Int) (r : ByteArray) (w : World) (hT : TabW w) (h : schismaref03_Int.f a0 = some r) :
  Calls Tryz.prog 186 #[.int .i64 a0] w fun e w' => e = .returned (.string r) ∧ Below w.heap.size w w' := by
 have HB := Aside0.mk (Below.refl w.heap.size w)
 have H : ((strconv_Itoa.f a0).bind fun t1285 => (some t1285)) = some r := h
 clear h
 replace H := Option.bind_eq_some_iff.mp H
 obtain ⟨t1285, A20, H⟩ := H
 try dsimp only at H
 have A2 := Aside0.mk A20
 clear A20
 obtain rfl := Option.some.inj H
 go_enter Tryz.func186, Tryz.ntmps186
 go_wp2_with (first | ((with_reducible refine gate_callee (f := 96) rfl ?_); refine goesK (some 4) Tryz.func96 [.int .i64 a0] rfl rfl ?_; (with_reducible refine (strconv_Itoa.calls a0 t1285 _ ?side1 A2.out).mono ?_); (case side1 => refine TabW.below hT ?_; apply_rules [HB.out, below_alloc, pw_below_drewN, below_drew1]); rintro e w3 ⟨rfl, hb⟩; refine ⟨_, rfl, ?_⟩; replace HB := Aside0.mk (below_step (by apply_rules [HB.out, below_alloc, pw_below_drewN, below_drew1]) hb); (try clear hb)))
 go_ret
 exact ⟨by first | rfl | simp [*], by apply_rules [HB.out, below_alloc, pw_below_drewN, below_drew1]⟩
def schismaref03_Of.f (k : Nat) (a0 : Int) : Option (Bool × List Int) := (schismaref03_Int.f a0).bind fun t1287 => ((schismaref03_To.f k t1287).bind fun bt1288 => (some (bt1288.1, bt1288.2)))
set_option maxHeartbeats 8000000 in
set_option maxRecDepth 100000 in
theorem schismaref03_Of.calls (k : Nat) (a0 : Int) (r1 : Bool) (r2 : List Int) (w : World) (hT : TabW w) (h : schismaref03_Of.f k a0 = some (r1, r2)) :
  Calls Tryz.prog 135 #[.int .i64 a0] w fun e w' => ∃ v1_ : Value, e = .returned (.agg #[.bool r1, v1_]) ∧ Kd.V (Kd.int .i64) 3 w' w.heap.size (fun k_ => (w.heap.size ≤ k_)) v1_ r2 ∧ Below w.heap.size w w' := by
 have hu101 := Tryz.underlying101
 have HB := Aside0.mk (Below.refl w.heap.size w)
 have H : ((schismaref03_Int.f a0).bind fun t1287 => ((schismaref03_To.f k t1287).bind fun bt1288 => (some (bt1288.1, bt1288.2)))) = some (r1, r2) := h
 clear h
 replace H := Option.bind_eq_some_iff.mp H
 obtain ⟨t1287, A20, H⟩ := H
 try dsimp only at H
 have A2 := Aside0.mk A20
 clear A20
 replace H := Option.bind_eq_some_iff.mp H
 obtain ⟨⟨t1288, t1289⟩, A30, H⟩ := H
 try dsimp only at H
 have A3 := Aside0.mk A30
 clear A30
 simp only [Option.some.injEq, Prod.mk.injEq] at H
 obtain ⟨rfl, rfl⟩ := H
 go_enter Tryz.func135, Tryz.ntmps135
 go_wp2_with (first | ((with_reducible refine gate_dst (N := 2) rfl ?_); refine box_event ?hg (N := 2) ?hd (cs := #[.bool false, .slice none 0 0]) (t := 101) ?hr ?_; (case hd => rfl); (case hg => rfl); (case hr => go_simp; try rfl); intro gb1286 hg w4 hbox hb; have n0_ := Aside0.mk (below_step (by apply_rules [HB.out, below_alloc, pw_below_drewN, below_drew1]) hb); have n1_ := Aside0.mk (hbox); have n2_ := Aside0.mk ((by rw [hg]; exact (below_size (by apply_rules [HB.out, below_alloc, pw_below_drewN, below_drew1])) : w.heap.size ≤ gb1286)); have n3_ := Aside0.mk ((by rw [hg]; exact (below_size (by apply_rules [HB.out, below_alloc, pw_below_drewN, below_drew1])) : w.heap.size ≤ gb1286)); clear HB; have HB := n0_; have BK1286 := n1_; have GW1286 := n2_; have GE1286 := n3_; clear n0_ n1_ n2_ n3_; clear hb hbox hg) | ((with_reducible refine gate_callee (f := 186) rfl ?_); refine goesK (some 4) Tryz.func186 [.int .i64 a0] rfl rfl ?_; (with_reducible refine (schismaref03_Int.calls a0 t1287 _ ?side1 A2.out).mono ?_); (case side1 => refine TabW.below hT ?_; apply_rules [HB.out, below_alloc, pw_below_drewN, below_drew1, below_set, GE1286.out]); rintro e w5 ⟨rfl, hb⟩; refine ⟨_, rfl, ?_⟩; replace BK1286 := Aside0.mk (blk_below (g := gb1286) (o := .cells #[.bool false, .slice none 0 0] 101 (0, 0)) (by apply_rules [BK1286.out, blk_drewN, blk_drew, blk_alloc]) hb); replace HB := Aside0.mk (below_step (by apply_rules [HB.out, below_alloc, pw_below_drewN, below_drew1, below_set, GE1286.out]) hb); (try clear hb)) | ((with_reducible refine gate_callee (f := 85) rfl ?_); refine goesK (some 5) Tryz.func85 [.string t1287] rfl rfl ?_; (with_reducible refine (schismaref03_To.calls k t1287 t1288 t1289 _ ?side1 A3.out).mono ?_); (case side1 => refine TabW.below hT ?_; apply_rules [HB.out, below_alloc, pw_below_drewN, below_drew1, below_set, GE1286.out]); rintro e w6 ⟨v1290, rfl, ho0, hb⟩; refine ⟨_, rfl, ?_⟩; have HO1291 := Aside0.mk (Kd.V_lower (Kd.V_mono (ok' := fun k_ => (w.heap.size ≤ k_) ∧ k_ ≠ gb1286) ho0 (fun k_ hk_ => ⟨(Nat.le_trans (below_size (by apply_rules [HB.out, below_alloc, pw_below_drewN, below_drew1, below_set, GE1286.out])) hk_), (Kd.freshB (g := gb1286) (o := .cells #[.bool false, .slice none 0 0] 101 (0, 0)) (by apply_rules [BK1286.out, blk_drewN, blk_drew, blk_alloc]) k_ hk_)⟩)) (below_size (by apply_rules [HB.out, below_alloc, pw_below_drewN, below_drew1, below_set, GE1286.out]))); replace BK1286 := Aside0.mk (blk_below (g := gb1286) (o := .cells #[.bool false, .slice none 0 0] 101 (0, 0)) (by apply_rules [BK1286.out, blk_drewN, blk_drew, blk_alloc]) hb); replace HB := Aside0.mk (below_step (by apply_rules [HB.out, below_alloc, pw_below_drewN, below_drew1, below_set, GE1286.out]) hb); (try clear hb); (try clear ho0); have hcz7_0 : w6.cell? ⟨gb1286, 0, none⟩ = some (.bool false) := (blk_cell BK1286.out 0).trans rfl; have hcz7_1 : w6.cell? ⟨gb1286, 1, none⟩ = some (.slice none 0 0) := (blk_cell BK1286.out 1).trans rfl; have hfz7_0 := blk_frozen BK1286.out 0; have hfz7_1 := blk_frozen BK1286.out 1; obtain ⟨Ao8, co8, eo8⟩ := Kd.V_slice HO1291.out; subst eo8))
 refine bodyPost_ret (results_cell_row rfl _ _ gb1286 101 #[.bool t1288, .slice Ao8 t1289.length co8] (0, 0) _ rfl (by (with_reducible repeat (first | refine blk_drewN ?_ _ | refine blk_drew ?_ | refine blk_alloc ?_ _)); refine blk_put (cs := #[.bool t1288, .slice none 0 0]) ?_ 1 _ rfl; (with_reducible repeat (first | refine blk_drewN ?_ _ | refine blk_drew ?_ | refine blk_alloc ?_ _)); refine blk_put (cs := #[.bool false, .slice none 0 0]) ?_ 0 _ rfl; apply_rules [BK1286.out, blk_drewN, blk_drew, blk_alloc]) Tryz.underlying101 rfl (by kernel_rfl)) rfl ?_
 exact ⟨_, by first | rfl | simp [*], by (with_reducible repeat (first | apply Kd.V_alloc | apply Kd.V_drewN | apply Kd.V_drew)); exact Kd.V_mono (Kd.V_far (p := ⟨gb1286, 1, none⟩) (Kd.V_far (p := ⟨gb1286, 0, none⟩) (Kd.V_mono HO1291.out (fun k_ hk => (⟨hk, hk.2⟩ : _ ∧ k_ ≠ gb1286))) (fun _ hk => hk.2) (.bool t1288)) (fun _ hk => hk.2) (.slice Ao8 t1289.length co8)) (fun _ hk => hk.1.1), by apply_rules [HB.out, below_alloc, pw_below_drewN, below_drew1, below_set, GE1286.out]⟩
end Go.Proofs.YtccebdpjdpjgnaaGreatDoor.P
end
