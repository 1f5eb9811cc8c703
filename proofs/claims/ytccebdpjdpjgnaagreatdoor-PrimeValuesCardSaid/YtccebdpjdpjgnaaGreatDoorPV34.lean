/-
parts of the walks and of the plain laws: PstringsliteHasPrefix PstringsHasPrefix Pschismaref03trim Pschismaref03To ExtRep
-/
import Derived.Lib.Repeat
import Derived.Lib.TrimByte
import Derived.Test.YtccebdpjdpjgnaaGreatDoorPV17
set_option linter.unusedVariables false
set_option linter.unusedSimpArgs false
section
namespace Go.Proofs.YtccebdpjdpjgnaaGreatDoor.P
open Go.RowKit Go.Proofs.YtccebdpjdpjgnaaGreatDoorW.PrintWords Go.Proofs.YtccebdpjdpjgnaaGreatDoorW.PrintLast Go.Proofs.YtccebdpjdpjgnaaGreatDoorW.PrintMore
attribute [local go_sem] max2_int min2_int max_two min_two max_three min_three max_four min_four
def stringslite_HasPrefix.f (a0 : ByteArray) (a1 : ByteArray) : Option (Bool) := if (a0.size : Int) ≥ (a1.size : Int) then (if 0 ≤ (a1.size : Int) then (if (a1.size : Int) ≤ (a0.size : Int) then (some ((a0.extract 0 ((a1.size : Int) : Int).toNat).toList == a1.toList)) else (none)) else (none)) else (some false)
set_option maxHeartbeats 8000000 in
set_option maxRecDepth 100000 in
theorem stringslite_HasPrefix.calls (a0 : ByteArray) (a1 : ByteArray) (r : Bool) (w : World) (h : stringslite_HasPrefix.f a0 a1 = some r) :
  Calls Tryz.prog 194 #[.string a0, .string a1] w fun e w' => e = .returned (.bool r) ∧ Drawn0 w w' := by
 have H : (if (a0.size : Int) ≥ (a1.size : Int) then (if 0 ≤ (a1.size : Int) then (if (a1.size : Int) ≤ (a0.size : Int) then (some ((a0.extract 0 ((a1.size : Int) : Int).toNat).toList == a1.toList)) else (none)) else (none)) else (some false)) = some r := h
 clear h
 by_cases c3 : (a0.size : Int) ≥ (a1.size : Int)
 ·rw [if_pos c3] at H
  have c3b0 : decide ((a1.size : Int) ≤ (a0.size : Int)) = true := decide_eq_true c3
  have c3b1 : decide (a1.size ≤ a0.size) = true := decide_eq_true (Int.ofNat_le.mp c3)
  clear c3
  by_cases c4 : 0 ≤ (a1.size : Int)
  case neg => rw [if_neg c4] at H; exact absurd H (by simp)
  rw [if_pos c4] at H
  have c4b0 := eq_true c4
  have c4b1 : decide (0 ≤ (a1.size : Int)) = true := decide_eq_true c4
  clear c4
  by_cases c5 : (a1.size : Int) ≤ (a0.size : Int)
  case neg => rw [if_neg c5] at H; exact absurd H (by simp)
  rw [if_pos c5] at H
  have c5b0 := eq_true c5
  have c5b1 : decide ((a1.size : Int) ≤ (a0.size : Int)) = true := decide_eq_true c5
  clear c5
  obtain rfl := Option.some.inj H
  go_enter Tryz.func194, Tryz.ntmps194
  go_wp2
  go_ret
  exact ⟨by first | rfl | (simp; done) | (simp [*]; done), by repeat (first | exact Drawn0.refl _ | apply Drawn0.step)⟩
 ·rw [if_neg c3] at H
  have c3b0 : decide ((a1.size : Int) ≤ (a0.size : Int)) = false := decide_eq_false c3
  have c3b1 : decide (a1.size ≤ a0.size) = false := decide_eq_false (fun h => c3 (Int.ofNat_le.mpr h))
  clear c3
  obtain rfl := Option.some.inj H
  go_enter Tryz.func194, Tryz.ntmps194
  go_wp2
  go_ret
  exact ⟨by first | rfl | (simp; done) | (simp [*]; done), by repeat (first | exact Drawn0.refl _ | apply Drawn0.step)⟩
def strings_HasPrefix.f (a0 : ByteArray) (a1 : ByteArray) : Option (Bool) := (stringslite_HasPrefix.f a0 a1).bind fun t707 => (some t707)
set_option maxHeartbeats 8000000 in
set_option maxRecDepth 100000 in
theorem strings_HasPrefix.calls (a0 : ByteArray) (a1 : ByteArray) (r : Bool) (w : World) (h : strings_HasPrefix.f a0 a1 = some r) :
  Calls Tryz.prog 144 #[.string a0, .string a1] w fun e w' => e = .returned (.bool r) ∧ Drawn0 w w' := by
 have H : ((stringslite_HasPrefix.f a0 a1).bind fun t707 => (some t707)) = some r := h
 clear h
 replace H := Option.bind_eq_some_iff.mp H
 obtain ⟨t707, A30, H⟩ := H
 try dsimp only at H
 have A3 := Aside0.mk A30
 clear A30
 obtain rfl := Option.some.inj H
 go_enter Tryz.func144, Tryz.ntmps144
 go_wp2_with (first | ((with_reducible refine gate_callee (f := 194) rfl ?_); refine goesK (some 7) Tryz.func194 [.string a0, .string a1] rfl rfl ?_; (with_reducible refine (stringslite_HasPrefix.calls a0 a1 t707 _ A3.out).mono ?_); rintro e w' ⟨rfl, ⟨nd, rfl⟩⟩; refine ⟨_, rfl, ?_⟩))
 go_ret
 exact ⟨by first | rfl | (simp; done) | (simp [*]; done), by repeat (first | exact Drawn0.refl _ | apply Drawn0.step)⟩
def schismaref03_trim.l0 : Nat → Bool → List Int → Option (Bool × List Int)
 | 0, _, _ => none
 | k + 1, x1266000, x1266001 => if (x1266001.length : Int) > 0 then (if 0 ≤ (wrap64 ((x1266001.length : Int) - 1)) then (if (wrap64 ((x1266001.length : Int) - 1)) < (x1266001.length : Int) then (if (rd x1266001 (wrap64 ((x1266001.length : Int) - 1))) = 0 then (if (wrap64 ((x1266001.length : Int) - 1)) ≤ (x1266001.length : Int) then (schismaref03_trim.l0 k x1266000 (x1266001.take ((wrap64 ((x1266001.length : Int) - 1)) : Int).toNat)) else (none)) else (if x1266000 = true then (some (decide ((x1266001.length : Int) > 0), x1266001)) else (some (false, x1266001)))) else (none)) else (none)) else (if x1266000 = true then (some (decide ((x1266001.length : Int) > 0), x1266001)) else (some (false, x1266001)))
def schismaref03_trim.f (k : Nat) (a0_0 : Bool) (l0_1 : List Int) : Option (Bool × List Int) := schismaref03_trim.l0 k a0_0 l0_1
set_option maxHeartbeats 8000000 in
set_option maxRecDepth 100000 in
theorem schismaref03_trim.calls (k : Nat) (a0_0 : Bool) (P0_1_ : Nat → Prop) (A0_1 : Option Addr) (c0_1 : Nat) (l0_1 : List Int) (r1 : Bool) (r2 : List Int) (w : World) (hs0_1 : Kd.V (Kd.int .i64) 3 w w.heap.size (fun k_ => P0_1_ k_) (.slice A0_1 l0_1.length c0_1) l0_1) (h : schismaref03_trim.f k a0_0 l0_1 = some (r1, r2)) :
  Calls Tryz.prog 145 #[.agg #[.bool a0_0, .slice A0_1 l0_1.length c0_1]] w fun e w' => ∃ v1_ : Value, e = .returned (.agg #[.bool r1, v1_]) ∧ Kd.V (Kd.int .i64) 3 w' w.heap.size (fun k_ => (P0_1_ k_ ∨ w.heap.size ≤ k_)) v1_ r2 ∧ Below w.heap.size w w' := by
 have hu101 := Tryz.underlying101
 have HO0_1 := Aside0.mk (show Kd.V (Kd.int .i64) 3 w w.heap.size (fun k_ => (P0_1_ k_ ∨ w.heap.size ≤ k_)) (.slice A0_1 l0_1.length c0_1) l0_1 from Kd.V_mono hs0_1 (fun k_ hk => .inl hk))
 have HB := Aside0.mk (Below.refl w.heap.size w)
 have H : (schismaref03_trim.l0 k a0_0 l0_1) = some (r1, r2) := h
 clear h
 have H' := Aside0.mk H
 clear H
 go_enter Tryz.func145, Tryz.ntmps145
 go_wp2_with (first | ((with_reducible refine gate_dst (N := 1) rfl ?_); (try (refine gate_guard (by rfl) ?_; dsimp only)); refine box_event ?hg (N := 1) ?hd (cs := #[.bool a0_0, .slice A0_1 l0_1.length c0_1]) (t := 101) ?hr ?_; (case hd => rfl); (case hg => rfl); (case hr => go_simp; try rfl); intro gb1265 hg w2 hbox hb; have n0_ := Aside0.mk (Kd.V_below (Kd.V_elderB (by (with_reducible repeat (first | apply Kd.V_alloc | apply Kd.V_drewN | apply Kd.V_drew)); exact HO0_1.out) gb1265 (Nat.le_of_eq hg.symm)) hb); have n1_ := Aside0.mk (below_step (by apply_rules [HB.out, below_alloc, pw_below_drewN, below_drew1]) hb); have n2_ := Aside0.mk (hbox); have n3_ := Aside0.mk ((by rw [hg]; exact (below_size (by apply_rules [HB.out, below_alloc, pw_below_drewN, below_drew1])) : w.heap.size ≤ gb1265)); have n4_ := Aside0.mk ((by rw [hg]; exact (below_size (by apply_rules [HB.out, below_alloc, pw_below_drewN, below_drew1])) : w.heap.size ≤ gb1265)); clear HO0_1; clear HB; have HO0_1 := n0_; have HB := n1_; have BK1265 := n2_; have GW1265 := n3_; have GE1265 := n4_; clear n0_ n1_ n2_ n3_ n4_; clear hb hbox hg) | ((with_reducible refine gate_dst (N := 2) rfl ?_); (try (refine gate_guard (by rfl) ?_; dsimp only)); refine box_event ?hg (N := 2) ?hd (cs := #[.bool false, .slice none 0 0]) (t := 101) ?hr ?_; (case hd => rfl); (case hg => rfl); (case hr => go_simp; try rfl); intro gb1266 hg w3 hbox hb; have n0_ := Aside0.mk (Kd.V_below (Kd.V_elderB (by (with_reducible repeat (first | apply Kd.V_alloc | apply Kd.V_drewN | apply Kd.V_drew)); exact HO0_1.out) gb1266 (Nat.le_of_eq hg.symm)) hb); have n1_ := Aside0.mk (blk_below (g := gb1265) (o := .cells #[.bool a0_0, .slice A0_1 l0_1.length c0_1] 101 (0, 0)) (by apply_rules [BK1265.out, blk_drewN, blk_drew, blk_alloc]) hb); have n2_ := Aside0.mk (below_step (by apply_rules [HB.out, below_alloc, pw_below_drewN, below_drew1, below_set, GE1265.out]) hb); have n3_ := Aside0.mk (hbox); have n4_ := Aside0.mk ((by rw [hg]; exact (below_size (by apply_rules [HB.out, below_alloc, pw_below_drewN, below_drew1, below_set, GE1265.out])) : w.heap.size ≤ gb1266)); have n5_ := Aside0.mk ((by rw [hg]; exact (below_size (by apply_rules [HB.out, below_alloc, pw_below_drewN, below_drew1, below_set, GE1265.out])) : w.heap.size ≤ gb1266)); have n6_ := Aside0.mk ((by rw [hg]; exact Nat.ne_of_lt (blk_lt (g := gb1265) (o := .cells #[.bool a0_0, .slice A0_1 l0_1.length c0_1] 101 (0, 0)) (by apply_rules [BK1265.out, blk_drewN, blk_drew, blk_alloc])) : gb1265 ≠ gb1266)); have n7_ := Aside0.mk ((by rw [hg]; exact Nat.ne_of_gt (blk_lt (g := gb1265) (o := .cells #[.bool a0_0, .slice A0_1 l0_1.length c0_1] 101 (0, 0)) (by apply_rules [BK1265.out, blk_drewN, blk_drew, blk_alloc])) : gb1266 ≠ gb1265)); clear HO0_1; clear BK1265; clear HB; have HO0_1 := n0_; have BK1265 := n1_; have HB := n2_; have BK1266 := n3_; have GW1266 := n4_; have GE1266 := n5_; have NB1265_1266 := n6_; have NB1266_1265 := n7_; clear n0_ n1_ n2_ n3_ n4_ n5_ n6_ n7_; clear hb hbox hg))
 try go_simp
 go_loopg [] k (fun kq w' => ∃ (x1266001_1 : List Int) (u1266001 : Value), Aside0 (schismaref03_trim.l0 kq a0_0 x1266001_1 = some (r1, r2)) ∧ Aside0 (kq ≤ k) ∧ Aside0 (Kd.V (Kd.int .i64) 3 w' w.heap.size (fun k_ => (P0_1_ k_ ∨ w.heap.size ≤ k_) ∧ k_ ≠ gb1265 ∧ k_ ≠ gb1266) u1266001 x1266001_1) ∧ Aside0 (w'.heap[gb1265]? = some (.cells #[.bool a0_0, u1266001] 101 (0, 0))) ∧ Aside0 (w'.heap[gb1266]? = some (.cells #[.bool false, (.slice none 0 0)] 101 (0, 0))) ∧ Aside0 (Below w.heap.size w w'))
 case atStart => exact ⟨(l0_1), (.slice A0_1 l0_1.length c0_1), H', ⟨Nat.le_refl _⟩, ⟨by (with_reducible repeat (first | apply Kd.V_alloc | apply Kd.V_drewN | apply Kd.V_drew)); exact Kd.V_mono HO0_1.out (fun _ hk => ⟨hk.1.1, ⟨hk.1.2, hk.2⟩⟩)⟩, ⟨by apply_rules [BK1265.out, blk_drewN, blk_drew, blk_alloc]⟩, ⟨by apply_rules [BK1266.out, blk_drewN, blk_drew, blk_alloc]⟩, ⟨by apply_rules [HB.out, below_alloc, pw_below_drewN, below_drew1, below_set, GE1265.out, GE1266.out]⟩⟩
 case round =>
  clear H'
  obtain ⟨x1266001_1, u1266001, HA, HK1, HO_1266001, BK1265, BK1266, HB⟩ := hrel
  cases gk with
  | zero => exact absurd HA.out (by simp [schismaref03_trim.l0])
  | succ k1 =>
   have H := HA.out
   clear HA
   simp only [schismaref03_trim.l0] at H
   by_cases c4 : (x1266001_1.length : Int) > 0
   ·rw [if_pos c4] at H
    have c4b0 : decide (0 < (x1266001_1.length : Int)) = true := decide_eq_true c4
    have c4b1 : decide (0 < x1266001_1.length) = true := decide_eq_true (by omega)
    clear c4
    obtain ⟨ji5, hji5⟩ : ∃ j_ : Int, (wrap64 ((x1266001_1.length : Int) - 1)) = j_ := ⟨_, rfl⟩
    replace H : (if 0 ≤ (ji5) then (if (ji5) < (x1266001_1.length : Int) then (if (rd x1266001_1 (ji5)) = 0 then (if (ji5) ≤ (x1266001_1.length : Int) then (schismaref03_trim.l0 k1 a0_0 (x1266001_1.take ((ji5) : Int).toNat)) else (none)) else (if a0_0 = true then (some (decide ((x1266001_1.length : Int) > 0), x1266001_1)) else (some (false, x1266001_1)))) else (none)) else (none)) = some (r1, r2) := by first | (rw [hji5] at H; exact H) | (simp only [hji5] at H ⊢; exact H)
    have hji5w : (IntKind.i64.wrap ((x1266001_1.length : Int) - 1)) = ji5 := (i64_w _).trans hji5
    by_cases c6 : 0 ≤ (ji5)
    case neg => rw [if_neg c6] at H; exact absurd H (by simp)
    rw [if_pos c6] at H
    have c6b0 : decide (0 ≤ (ji5)) = true := decide_eq_true c6
    clear c6
    by_cases c7 : (ji5) < (x1266001_1.length : Int)
    case neg => rw [if_neg c7] at H; exact absurd H (by simp)
    rw [if_pos c7] at H
    have c7b0 : decide ((ji5) < (x1266001_1.length : Int)) = true := decide_eq_true c7
    clear c7
    by_cases c8 : (rd x1266001_1 (ji5)) = 0
    ·rw [if_pos c8] at H
     have c8b0 : ((rd x1266001_1 (ji5)) == 0) = true := beq_iff_eq.mpr c8
     have c8b1 : ((rd x1266001_1 (ji5)) != 0) = false := bne_eq_false_iff_eq.mpr c8
     clear c8
     have c9b0 := eq_true (of_decide_eq_true (by assumption) : 0 ≤ (ji5))
     by_cases c10 : (ji5) ≤ (x1266001_1.length : Int)
     case neg => rw [if_neg c10] at H; exact absurd H (by simp)
     rw [if_pos c10] at H
     have c10b0 := eq_true c10
     have c10b1 : decide ((ji5) ≤ (x1266001_1.length : Int)) = true := decide_eq_true c10
     clear c10
     obtain ⟨y1268, hy1268⟩ : ∃ y_ : List Int, y_ = (x1266001_1.take ((ji5) : Int).toNat) := ⟨_, rfl⟩
     replace H : (schismaref03_trim.l0 k1 a0_0 y1268) = some (r1, r2) := by first | (rw [hy1268]; with_reducible exact H) | (have H2_ := (Option.bind_some _ _).symm.trans H; rw [hy1268]; with_reducible exact H2_) | (have H2_ := (Option.bind_some _ _).symm.trans H; with_reducible exact H2_) | with_reducible exact H | (rw [hy1268]; exact H) | exact H
     have Ny1268 := Aside0.mk hy1268
     clear hy1268
     have H' := Aside0.mk H
     clear H
     have hnb11 := NB1265_1266.out
     have hnc11 := NB1266_1265.out
     have hcz12_0 : wr.cell? ⟨gb1265, 0, none⟩ = some (.bool a0_0) := (blk_cell BK1265.out 0).trans rfl
     have hcz12_1 : wr.cell? ⟨gb1265, 1, none⟩ = some (u1266001) := (blk_cell BK1265.out 1).trans rfl
     have hfz12_0 := blk_frozen BK1265.out 0
     have hfz12_1 := blk_frozen BK1265.out 1
     obtain ⟨Ao13, co13, eo13⟩ := Kd.V_slice HO_1266001.out
     subst eo13
     have p1267 : 0 ≤ ((ji5) : Int) := of_decide_eq_true (by assumption)
     have q1267 : (ji5) < (x1266001_1.length : Int) := of_decide_eq_true (by assumption)
     obtain ⟨ad1267, e1267, hx1267_0⟩ := Kd.at_int (Kd.V_reads' HO_1266001.out).2.2 (ji5) p1267 q1267
     cases e1267
     replace p1267 := eq_true p1267
     replace q1267 := eq_true q1267
     have q14 : ((ji5) : Int) ≤ ((x1266001_1.length : Int) : Int) := of_decide_eq_true (by assumption)
     obtain ⟨i014, hi014, _, hsz14, _⟩ := info_parts info3
     have hroom14 : x1266001_1.length ≤ co13 := (Kd.V_reads' HO_1266001.out).2.1
     have hC14 : Kd.F (Kd.int .i64) _ _ (some ad1267) x1266001_1.length x1266001_1 := (Kd.V_at (base := w.heap.size) HO_1266001.out).2.2
     have hcut14 := cut_to (P := Tryz.prog) 22 3 .i64 Tryz.underlying22 hi014 (some ad1267) x1266001_1.length co13 (ji5) (of_decide_eq_true (by assumption)) q14 hroom14
     have hr14 := Kd.F_take (m := ((ji5) : Int).toNat) hC14 (by omega)
     have hy14 : y1268.length = ((ji5) : Int).toNat := (by rw [Ny1268.out, List.length_take]; omega)
     rw [← Ny1268.out] at hr14
     rw [← hy14] at hcut14
     have HO1272 := Aside0.mk (show Kd.V (Kd.int .i64) 3 _ w.heap.size _ (.slice (some ad1267) y1268.length co13) y1268 from Kd.V_mk (by omega) hr14)
     have HC1272 := Aside0.mk (show y1268.length ≤ co13 from by omega)
     clear hr14 hC14 hroom14 hi014 hsz14
     have KY14 := Aside0.mk hy14
     clear hy14
     replace q14 := eq_true q14
     go_wp2
     go_roundg k1
     case measure => have := HK1.out; omega
     case rel => exact ⟨(y1268), (.slice (some ad1267) y1268.length co13), H', ⟨by have := HK1.out; omega⟩, ⟨by (with_reducible repeat (first | apply Kd.V_alloc | apply Kd.V_drewN | apply Kd.V_drew)); exact Kd.V_mono (Kd.V_far (p := ⟨gb1265, 1, none⟩) (Kd.V_mono HO1272.out (fun k_ hk => (⟨hk, hk.2.1⟩ : _ ∧ k_ ≠ gb1265))) (fun _ hk => hk.2) (.slice (some ad1267) y1268.length co13)) (fun _ hk => ⟨hk.1.1, ⟨hk.1.2.1, hk.1.2.2⟩⟩)⟩, ⟨by (with_reducible repeat (first | refine blk_drewN ?_ _ | refine blk_drew ?_ | refine blk_alloc ?_ _)); refine blk_put (cs := #[.bool a0_0, .slice (some ad1267) x1266001_1.length co13]) ?_ 1 _ rfl; apply_rules [BK1265.out, blk_drewN, blk_drew, blk_alloc]⟩, ⟨by (with_reducible repeat (first | refine blk_drewN ?_ _ | refine blk_drew ?_ | refine blk_alloc ?_ _)); refine blk_far ?_ NB1266_1265.out _; apply_rules [BK1266.out, blk_drewN, blk_drew, blk_alloc]⟩, ⟨by apply_rules [HB.out, below_alloc, pw_below_drewN, below_drew1, below_set, GE1265.out, GE1266.out]⟩⟩
    ·rw [if_neg c8] at H
     have c8b0 : ((rd x1266001_1 (ji5)) == 0) = false := beq_eq_false_iff_ne.mpr c8
     have c8b1 : ((rd x1266001_1 (ji5)) != 0) = true := bne_iff_ne.mpr c8
     by_cases c15 : a0_0 = true
     ·subst c15
      have H1 : (some (true, x1266001_1)) = some (r1, r2) := by rw [if_pos rfl] at H; rw [← H]; exact congrArg (fun b_ => some (b_, x1266001_1)) c4b0.symm
      clear H
      have H := H1
      clear H1
      simp only [Option.some.injEq, Prod.mk.injEq] at H
      obtain ⟨rfl, rfl⟩ := H
      have hnb16 := NB1265_1266.out
      have hnc16 := NB1266_1265.out
      have hcz17_0 : wr.cell? ⟨gb1265, 0, none⟩ = some (.bool true) := (blk_cell BK1265.out 0).trans rfl
      have hcz17_1 : wr.cell? ⟨gb1265, 1, none⟩ = some (u1266001) := (blk_cell BK1265.out 1).trans rfl
      have hfz17_0 := blk_frozen BK1265.out 0
      have hfz17_1 := blk_frozen BK1265.out 1
      obtain ⟨Ao18, co18, eo18⟩ := Kd.V_slice HO_1266001.out
      subst eo18
      have p1267 : 0 ≤ ((ji5) : Int) := of_decide_eq_true (by assumption)
      have q1267 : (ji5) < (x1266001_1.length : Int) := of_decide_eq_true (by assumption)
      obtain ⟨ad1267, e1267, hx1267_0⟩ := Kd.at_int (Kd.V_reads' HO_1266001.out).2.2 (ji5) p1267 q1267
      cases e1267
      replace p1267 := eq_true p1267
      replace q1267 := eq_true q1267
      have hcz19_0 : wr.cell? ⟨gb1266, 0, none⟩ = some (.bool false) := (blk_cell BK1266.out 0).trans rfl
      have hcz19_1 : wr.cell? ⟨gb1266, 1, none⟩ = some (.slice none 0 0) := (blk_cell BK1266.out 1).trans rfl
      have hfz19_0 := blk_frozen BK1266.out 0
      have hfz19_1 := blk_frozen BK1266.out 1
      go_wp2
      refine bodyPost_ret (results_cell_row rfl _ _ gb1266 101 #[.bool true, .slice (some ad1267) x1266001_1.length co18] (0, 0) _ rfl (by (with_reducible repeat (first | refine blk_drewN ?_ _ | refine blk_drew ?_ | refine blk_alloc ?_ _)); refine blk_put (cs := #[.bool true, .slice none 0 0]) ?_ 1 _ rfl; (with_reducible repeat (first | refine blk_drewN ?_ _ | refine blk_drew ?_ | refine blk_alloc ?_ _)); refine blk_put (cs := #[.bool false, .slice none 0 0]) ?_ 0 _ rfl; (with_reducible repeat (first | refine blk_drewN ?_ _ | refine blk_drew ?_ | refine blk_alloc ?_ _)); refine blk_far ?_ NB1266_1265.out _; apply_rules [BK1266.out, blk_drewN, blk_drew, blk_alloc]) Tryz.underlying101 rfl (by kernel_rfl)) rfl ?_
      exact ⟨_, by first | rfl | (simp [errW_none, errW_some] <;> rfl) | (simp only [← hji5]; first | rfl | (simp [errW_none, errW_some] <;> rfl)) | (simp [*, errW_none, errW_some] <;> rfl), by (with_reducible repeat (first | apply Kd.V_alloc | apply Kd.V_drewN | apply Kd.V_drew)); exact Kd.V_mono (Kd.V_far (p := ⟨gb1266, 1, none⟩) (Kd.V_far (p := ⟨gb1266, 0, none⟩) (Kd.V_far (p := ⟨gb1265, 0, none⟩) (Kd.V_mono (Kd.V_mono HO_1266001.out (fun k_ hk => (⟨hk, hk.2.1⟩ : _ ∧ k_ ≠ gb1265))) (fun k_ hk => (⟨hk, hk.1.2.2⟩ : _ ∧ k_ ≠ gb1266))) (fun _ hk => hk.1.2) (.bool true)) (fun _ hk => hk.2) (.bool true)) (fun _ hk => hk.2) (.slice (some ad1267) x1266001_1.length co18)) (fun _ hk => hk.1.1.1), by apply_rules [HB.out, below_alloc, pw_below_drewN, below_drew1, below_set, GE1265.out, GE1266.out]⟩
     ·replace c15 := Bool.eq_false_iff.mpr c15
      subst c15
      have H1 : (some (false, x1266001_1)) = some (r1, r2) := by rw [if_neg (show ¬ (false = true) by decide)] at H; exact H
      clear H
      have H := H1
      clear H1
      simp only [Option.some.injEq, Prod.mk.injEq] at H
      obtain ⟨rfl, rfl⟩ := H
      have hnb20 := NB1265_1266.out
      have hnc20 := NB1266_1265.out
      have hcz21_0 : wr.cell? ⟨gb1265, 0, none⟩ = some (.bool false) := (blk_cell BK1265.out 0).trans rfl
      have hcz21_1 : wr.cell? ⟨gb1265, 1, none⟩ = some (u1266001) := (blk_cell BK1265.out 1).trans rfl
      have hfz21_0 := blk_frozen BK1265.out 0
      have hfz21_1 := blk_frozen BK1265.out 1
      obtain ⟨Ao22, co22, eo22⟩ := Kd.V_slice HO_1266001.out
      subst eo22
      have p1267 : 0 ≤ ((ji5) : Int) := of_decide_eq_true (by assumption)
      have q1267 : (ji5) < (x1266001_1.length : Int) := of_decide_eq_true (by assumption)
      obtain ⟨ad1267, e1267, hx1267_0⟩ := Kd.at_int (Kd.V_reads' HO_1266001.out).2.2 (ji5) p1267 q1267
      cases e1267
      replace p1267 := eq_true p1267
      replace q1267 := eq_true q1267
      have hcz23_0 : wr.cell? ⟨gb1266, 0, none⟩ = some (.bool false) := (blk_cell BK1266.out 0).trans rfl
      have hcz23_1 : wr.cell? ⟨gb1266, 1, none⟩ = some (.slice none 0 0) := (blk_cell BK1266.out 1).trans rfl
      have hfz23_0 := blk_frozen BK1266.out 0
      have hfz23_1 := blk_frozen BK1266.out 1
      go_wp2
      refine bodyPost_ret (results_cell_row rfl _ _ gb1266 101 #[.bool false, .slice (some ad1267) x1266001_1.length co22] (0, 0) _ rfl (by (with_reducible repeat (first | refine blk_drewN ?_ _ | refine blk_drew ?_ | refine blk_alloc ?_ _)); refine blk_put (cs := #[.bool false, .slice none 0 0]) ?_ 1 _ rfl; (with_reducible repeat (first | refine blk_drewN ?_ _ | refine blk_drew ?_ | refine blk_alloc ?_ _)); refine blk_put (cs := #[.bool false, .slice none 0 0]) ?_ 0 _ rfl; (with_reducible repeat (first | refine blk_drewN ?_ _ | refine blk_drew ?_ | refine blk_alloc ?_ _)); refine blk_far ?_ NB1266_1265.out _; apply_rules [BK1266.out, blk_drewN, blk_drew, blk_alloc]) Tryz.underlying101 rfl (by kernel_rfl)) rfl ?_
      exact ⟨_, by first | rfl | (simp [errW_none, errW_some] <;> rfl) | (simp only [← hji5]; first | rfl | (simp [errW_none, errW_some] <;> rfl)) | (simp [*, errW_none, errW_some] <;> rfl), by (with_reducible repeat (first | apply Kd.V_alloc | apply Kd.V_drewN | apply Kd.V_drew)); exact Kd.V_mono (Kd.V_far (p := ⟨gb1266, 1, none⟩) (Kd.V_far (p := ⟨gb1266, 0, none⟩) (Kd.V_far (p := ⟨gb1265, 0, none⟩) (Kd.V_mono (Kd.V_mono HO_1266001.out (fun k_ hk => (⟨hk, hk.2.1⟩ : _ ∧ k_ ≠ gb1265))) (fun k_ hk => (⟨hk, hk.1.2.2⟩ : _ ∧ k_ ≠ gb1266))) (fun _ hk => hk.1.2) (.bool false)) (fun _ hk => hk.2) (.bool false)) (fun _ hk => hk.2) (.slice (some ad1267) x1266001_1.length co22)) (fun _ hk => hk.1.1.1), by apply_rules [HB.out, below_alloc, pw_below_drewN, below_drew1, below_set, GE1265.out, GE1266.out]⟩
   ·rw [if_neg c4] at H
    have c4b0 : decide (0 < (x1266001_1.length : Int)) = false := decide_eq_false c4
    have c4b1 : decide (0 < x1266001_1.length) = false := decide_eq_false (by omega)
    clear c4
    by_cases c24 : a0_0 = true
    ·subst c24
     have H1 : (some (false, x1266001_1)) = some (r1, r2) := by rw [if_pos rfl] at H; rw [← H]; exact congrArg (fun b_ => some (b_, x1266001_1)) c4b0.symm
     clear H
     have H := H1
     clear H1
     simp only [Option.some.injEq, Prod.mk.injEq] at H
     obtain ⟨rfl, rfl⟩ := H
     have hnb25 := NB1265_1266.out
     have hnc25 := NB1266_1265.out
     have hcz26_0 : wr.cell? ⟨gb1265, 0, none⟩ = some (.bool true) := (blk_cell BK1265.out 0).trans rfl
     have hcz26_1 : wr.cell? ⟨gb1265, 1, none⟩ = some (u1266001) := (blk_cell BK1265.out 1).trans rfl
     have hfz26_0 := blk_frozen BK1265.out 0
     have hfz26_1 := blk_frozen BK1265.out 1
     obtain ⟨Ao27, co27, eo27⟩ := Kd.V_slice HO_1266001.out
     subst eo27
     have hcz28_0 : wr.cell? ⟨gb1266, 0, none⟩ = some (.bool false) := (blk_cell BK1266.out 0).trans rfl
     have hcz28_1 : wr.cell? ⟨gb1266, 1, none⟩ = some (.slice none 0 0) := (blk_cell BK1266.out 1).trans rfl
     have hfz28_0 := blk_frozen BK1266.out 0
     have hfz28_1 := blk_frozen BK1266.out 1
     go_wp2
     refine bodyPost_ret (results_cell_row rfl _ _ gb1266 101 #[.bool false, .slice Ao27 x1266001_1.length co27] (0, 0) _ rfl (by (with_reducible repeat (first | refine blk_drewN ?_ _ | refine blk_drew ?_ | refine blk_alloc ?_ _)); refine blk_put (cs := #[.bool false, .slice none 0 0]) ?_ 1 _ rfl; (with_reducible repeat (first | refine blk_drewN ?_ _ | refine blk_drew ?_ | refine blk_alloc ?_ _)); refine blk_put (cs := #[.bool false, .slice none 0 0]) ?_ 0 _ rfl; (with_reducible repeat (first | refine blk_drewN ?_ _ | refine blk_drew ?_ | refine blk_alloc ?_ _)); refine blk_far ?_ NB1266_1265.out _; apply_rules [BK1266.out, blk_drewN, blk_drew, blk_alloc]) Tryz.underlying101 rfl (by kernel_rfl)) rfl ?_
     exact ⟨_, by first | rfl | simp [*], by (with_reducible repeat (first | apply Kd.V_alloc | apply Kd.V_drewN | apply Kd.V_drew)); exact Kd.V_mono (Kd.V_far (p := ⟨gb1266, 1, none⟩) (Kd.V_far (p := ⟨gb1266, 0, none⟩) (Kd.V_far (p := ⟨gb1265, 0, none⟩) (Kd.V_mono (Kd.V_mono HO_1266001.out (fun k_ hk => (⟨hk, hk.2.1⟩ : _ ∧ k_ ≠ gb1265))) (fun k_ hk => (⟨hk, hk.1.2.2⟩ : _ ∧ k_ ≠ gb1266))) (fun _ hk => hk.1.2) (.bool false)) (fun _ hk => hk.2) (.bool false)) (fun _ hk => hk.2) (.slice Ao27 x1266001_1.length co27)) (fun _ hk => hk.1.1.1), by apply_rules [HB.out, below_alloc, pw_below_drewN, below_drew1, below_set, GE1265.out, GE1266.out]⟩
    ·replace c24 := Bool.eq_false_iff.mpr c24
     subst c24
     have H1 : (some (false, x1266001_1)) = some (r1, r2) := by rw [if_neg (show ¬ (false = true) by decide)] at H; exact H
     clear H
     have H := H1
     clear H1
     simp only [Option.some.injEq, Prod.mk.injEq] at H
     obtain ⟨rfl, rfl⟩ := H
     have hnb29 := NB1265_1266.out
     have hnc29 := NB1266_1265.out
     have hcz30_0 : wr.cell? ⟨gb1265, 0, none⟩ = some (.bool false) := (blk_cell BK1265.out 0).trans rfl
     have hcz30_1 : wr.cell? ⟨gb1265, 1, none⟩ = some (u1266001) := (blk_cell BK1265.out 1).trans rfl
     have hfz30_0 := blk_frozen BK1265.out 0
     have hfz30_1 := blk_frozen BK1265.out 1
     obtain ⟨Ao31, co31, eo31⟩ := Kd.V_slice HO_1266001.out
     subst eo31
     have hcz32_0 : wr.cell? ⟨gb1266, 0, none⟩ = some (.bool false) := (blk_cell BK1266.out 0).trans rfl
     have hcz32_1 : wr.cell? ⟨gb1266, 1, none⟩ = some (.slice none 0 0) := (blk_cell BK1266.out 1).trans rfl
     have hfz32_0 := blk_frozen BK1266.out 0
     have hfz32_1 := blk_frozen BK1266.out 1
     go_wp2
     refine bodyPost_ret (results_cell_row rfl _ _ gb1266 101 #[.bool false, .slice Ao31 x1266001_1.length co31] (0, 0) _ rfl (by (with_reducible repeat (first | refine blk_drewN ?_ _ | refine blk_drew ?_ | refine blk_alloc ?_ _)); refine blk_put (cs := #[.bool false, .slice none 0 0]) ?_ 1 _ rfl; (with_reducible repeat (first | refine blk_drewN ?_ _ | refine blk_drew ?_ | refine blk_alloc ?_ _)); refine blk_put (cs := #[.bool false, .slice none 0 0]) ?_ 0 _ rfl; (with_reducible repeat (first | refine blk_drewN ?_ _ | refine blk_drew ?_ | refine blk_alloc ?_ _)); refine blk_far ?_ NB1266_1265.out _; apply_rules [BK1266.out, blk_drewN, blk_drew, blk_alloc]) Tryz.underlying101 rfl (by kernel_rfl)) rfl ?_
     exact ⟨_, by first | rfl | simp [*], by (with_reducible repeat (first | apply Kd.V_alloc | apply Kd.V_drewN | apply Kd.V_drew)); exact Kd.V_mono (Kd.V_far (p := ⟨gb1266, 1, none⟩) (Kd.V_far (p := ⟨gb1266, 0, none⟩) (Kd.V_far (p := ⟨gb1265, 0, none⟩) (Kd.V_mono (Kd.V_mono HO_1266001.out (fun k_ hk => (⟨hk, hk.2.1⟩ : _ ∧ k_ ≠ gb1265))) (fun k_ hk => (⟨hk, hk.1.2.2⟩ : _ ∧ k_ ≠ gb1266))) (fun _ hk => hk.1.2) (.bool false)) (fun _ hk => hk.2) (.bool false)) (fun _ hk => hk.2) (.slice Ao31 x1266001_1.length co31)) (fun _ hk => hk.1.1.1), by apply_rules [HB.out, below_alloc, pw_below_drewN, below_drew1, below_set, GE1265.out, GE1266.out]⟩
end Go.Proofs.YtccebdpjdpjgnaaGreatDoor.P
end
section
namespace Go.Proofs.YtccebdpjdpjgnaaGreatDoor.P
open Go.RowKit Go.Proofs.YtccebdpjdpjgnaaGreatDoorW.PrintWords Go.Proofs.YtccebdpjdpjgnaaGreatDoorW.PrintLast Go.Proofs.YtccebdpjdpjgnaaGreatDoorW.PrintMore
attribute [local go_sem] max2_int min2_int max_two min_two max_three min_three max_four min_four
mutual
def schismaref03_To.j0 : Nat → ByteArray → Bool → Option (Bool × List Int)
 | 0, _, _ => none
 | k + 1, x3, x1276000 => schismaref03_To.l0 k x3 x1276000 ([] : List Int)
def schismaref03_To.l0 : Nat → ByteArray → Bool → List Int → Option (Bool × List Int)
 | 0, _, _, _ => none
 | k + 1, x3, x1276000, x1276001 => if (x3.size : Int) > 0 then (if 0 ≤ (mx 0 (wrap64 ((x3.size : Int) - 9))) then (if (mx 0 (wrap64 ((x3.size : Int) - 9))) ≤ (x3.size : Int) then ((strconv_Atoi.f (x3.extract ((mx 0 (wrap64 ((x3.size : Int) - 9))) : Int).toNat x3.size)).bind fun bt1276 => (if x1276001.length < 17592186044416 then (schismaref03_To.l0 k (x3.extract 0 ((mx 0 (wrap64 ((x3.size : Int) - 9))) : Int).toNat) x1276000 (x1276001 ++ [bt1276.1])) else (none))) else (none)) else (none)) else ((schismaref03_trim.f k x1276000 x1276001).bind fun bt1281 => (some (bt1281.1, bt1281.2)))
end
def schismaref03_To.f (k : Nat) (a0 : ByteArray) : Option (Bool × List Int) := (strings_HasPrefix.f a0 (⟨#[45]⟩ : ByteArray)).bind fun t1274 => (if t1274 = true then (if 1 ≤ (a0.size : Int) then (schismaref03_To.j0 k (a0.extract 1 a0.size) t1274) else (none)) else (schismaref03_To.j0 k a0 t1274))
set_option maxHeartbeats 8000000 in
set_option maxRecDepth 100000 in
theorem schismaref03_To.calls (k : Nat) (a0 : ByteArray) (r1 : Bool) (r2 : List Int) (w : World) (hT : TabW w) (h : schismaref03_To.f k a0 = some (r1, r2)) :
  Calls Tryz.prog 85 #[.string a0] w fun e w' => ∃ v1_ : Value, e = .returned (.agg #[.bool r1, v1_]) ∧ Kd.V (Kd.int .i64) 3 w' w.heap.size (fun k_ => (w.heap.size ≤ k_)) v1_ r2 ∧ Below w.heap.size w w' := by
 have hu101 := Tryz.underlying101
 have HB := Aside0.mk (Below.refl w.heap.size w)
 have H : ((strings_HasPrefix.f a0 (⟨#[45]⟩ : ByteArray)).bind fun t1274 => (if t1274 = true then (if 1 ≤ (a0.size : Int) then (schismaref03_To.j0 k (a0.extract 1 a0.size) t1274) else (none)) else (schismaref03_To.j0 k a0 t1274))) = some (r1, r2) := h
 clear h
 replace H := Option.bind_eq_some_iff.mp H
 obtain ⟨t1274, A20, H⟩ := H
 try dsimp only at H
 have A2 := Aside0.mk A20
 clear A20
 have HC3 := Aside0.mk H
 clear H
 go_enter Tryz.func85, Tryz.ntmps85
 go_upto_if 13 with (first | ((with_reducible refine gate_dst (N := 2) rfl ?_); refine box_event ?hg (N := 2) ?hd (cs := #[.bool false, .slice none 0 0]) (t := 101) ?hr ?_; (case hd => rfl); (case hg => rfl); (case hr => go_simp; try rfl); intro gb1273 hg w4 hbox hb; have n0_ := Aside0.mk (below_step (by apply_rules [HB.out, below_alloc, pw_below_drewN, below_drew1]) hb); have n1_ := Aside0.mk (hbox); have n2_ := Aside0.mk ((by rw [hg]; exact (below_size (by apply_rules [HB.out, below_alloc, pw_below_drewN, below_drew1])) : w.heap.size ≤ gb1273)); have n3_ := Aside0.mk ((by rw [hg]; exact (below_size (by apply_rules [HB.out, below_alloc, pw_below_drewN, below_drew1])) : w.heap.size ≤ gb1273)); clear HB; have HB := n0_; have BK1273 := n1_; have GW1273 := n2_; have GE1273 := n3_; clear n0_ n1_ n2_ n3_; clear hb hbox hg) | ((with_reducible refine gate_callee (f := 144) rfl ?_); refine goesK (some 10) Tryz.func144 [.string a0, .string (⟨#[45]⟩ : ByteArray)] rfl rfl ?_; (with_reducible refine (strings_HasPrefix.calls a0 (⟨#[45]⟩ : ByteArray) t1274 _ A2.out).mono ?_); rintro e w' ⟨rfl, ⟨nd, rfl⟩⟩; refine ⟨_, rfl, ?_⟩; (try (rw [drewN_self w4]; generalize hq_ : World.drewN w4 _ = w4; have n0_ : Aside0 (w4.heap[gb1273]? = some (.cells #[.bool false, .slice none 0 0] 101 (0, 0))) := ⟨by rw [← hq_]; exact (by apply_rules [BK1273.out, blk_drewN, blk_drew, blk_alloc])⟩; have n1_ : Aside0 (Below w.heap.size w w4) := ⟨by rw [← hq_]; exact (by apply_rules [HB.out, below_alloc, pw_below_drewN, below_drew1, below_set, GE1273.out])⟩; clear BK1273 HB hq_; have BK1273 := n0_; have HB := n1_; clear n0_ n1_))) | ((with_reducible refine gate_dst (N := 4) rfl ?_); refine box_event ?hg (N := 4) ?hd (cs := #[.bool false, .slice none 0 0]) (t := 101) ?hr ?_; (case hd => rfl); (case hg => rfl); (case hr => go_simp; try rfl); intro gb1275 hg w5 hbox hb; have n0_ := Aside0.mk (blk_below (g := gb1273) (o := .cells #[.bool false, .slice none 0 0] 101 (0, 0)) (by apply_rules [BK1273.out, blk_drewN, blk_drew, blk_alloc]) hb); have n1_ := Aside0.mk (below_step (by apply_rules [HB.out, below_alloc, pw_below_drewN, below_drew1, below_set, GE1273.out]) hb); have n2_ := Aside0.mk (hbox); have n3_ := Aside0.mk ((by rw [hg]; exact (below_size (by apply_rules [HB.out, below_alloc, pw_below_drewN, below_drew1, below_set, GE1273.out])) : w.heap.size ≤ gb1275)); have n4_ := Aside0.mk ((by rw [hg]; exact (below_size (by apply_rules [HB.out, below_alloc, pw_below_drewN, below_drew1, below_set, GE1273.out])) : w.heap.size ≤ gb1275)); have n5_ := Aside0.mk ((by rw [hg]; exact Nat.ne_of_lt (blk_lt (g := gb1273) (o := .cells #[.bool false, .slice none 0 0] 101 (0, 0)) (by apply_rules [BK1273.out, blk_drewN, blk_drew, blk_alloc])) : gb1273 ≠ gb1275)); have n6_ := Aside0.mk ((by rw [hg]; exact Nat.ne_of_gt (blk_lt (g := gb1273) (o := .cells #[.bool false, .slice none 0 0] 101 (0, 0)) (by apply_rules [BK1273.out, blk_drewN, blk_drew, blk_alloc])) : gb1275 ≠ gb1273)); clear BK1273; clear HB; have BK1273 := n0_; have HB := n1_; have BK1275 := n2_; have GW1275 := n3_; have GE1275 := n4_; have NB1273_1275 := n5_; have NB1275_1273 := n6_; clear n0_ n1_ n2_ n3_ n4_ n5_ n6_; clear hb hbox hg; have hnb6 := NB1275_1273.out; have hnc6 := NB1273_1275.out; have hcz7_0 : w5.cell? ⟨gb1275, 0, none⟩ = some (.bool false) := (blk_cell BK1275.out 0).trans rfl; have hcz7_1 : w5.cell? ⟨gb1275, 1, none⟩ = some (.slice none 0 0) := (blk_cell BK1275.out 1).trans rfl; have hfz7_0 := blk_frozen BK1275.out 0; have hfz7_1 := blk_frozen BK1275.out 1))
 (try simp only [Act.put, List.setIfInBounds_toArray, List.set_cons_zero, List.set_cons_succ])
 go_cut [3] (fun v3 wc => ∃ (kq : Nat) (x3_2 : ByteArray), v3 = .string x3_2 ∧ Aside0 (schismaref03_To.j0 kq x3_2 t1274 = some (r1, r2)) ∧ Aside0 (kq ≤ k) ∧ Aside0 (wc.heap[gb1273]? = some (.cells #[.bool false, (.slice none 0 0)] 101 (0, 0))) ∧ Aside0 (wc.heap[gb1275]? = some (.cells #[.bool t1274, (.slice none 0 0)] 101 (0, 0))) ∧ Aside0 (Below w.heap.size w wc))
 case first =>
  have H := HC3.out
  clear HC3
  by_cases c8 : t1274 = true
  ·subst c8
   have H1 : (if 1 ≤ (a0.size : Int) then (schismaref03_To.j0 k (a0.extract 1 a0.size) true) else (none)) = some (r1, r2) := by rw [if_pos rfl] at H; exact H
   clear H
   have H := H1
   clear H1
   by_cases c9 : 1 ≤ (a0.size : Int)
   case neg => rw [if_neg c9] at H; exact absurd H (by simp)
   rw [if_pos c9] at H
   have c9b0 := eq_true c9
   have c9b1 : decide (1 ≤ (a0.size : Int)) = true := decide_eq_true c9
   clear c9
   have H' := Aside0.mk H
   clear H
   go_wp2
   go_meet
   case rel => exact ⟨_, (a0.extract 1 a0.size), (by first | rfl | (simp; done) | (simp [*]; done)), H', ⟨by first | omega | exact Nat.le_refl _⟩, ⟨by (with_reducible repeat (first | refine blk_drewN ?_ _ | refine blk_drew ?_ | refine blk_alloc ?_ _)); refine blk_far ?_ NB1273_1275.out _; (with_reducible repeat (first | refine blk_drewN ?_ _ | refine blk_drew ?_ | refine blk_alloc ?_ _)); refine blk_far ?_ NB1273_1275.out _; apply_rules [BK1273.out, blk_drewN, blk_drew, blk_alloc]⟩, ⟨by (with_reducible repeat (first | refine blk_drewN ?_ _ | refine blk_drew ?_ | refine blk_alloc ?_ _)); refine blk_put (cs := #[.bool true, .slice none 0 0]) ?_ 1 _ rfl; (with_reducible repeat (first | refine blk_drewN ?_ _ | refine blk_drew ?_ | refine blk_alloc ?_ _)); refine blk_put (cs := #[.bool false, .slice none 0 0]) ?_ 0 _ rfl; apply_rules [BK1275.out, blk_drewN, blk_drew, blk_alloc]⟩, ⟨by apply_rules [HB.out, below_alloc, pw_below_drewN, below_drew1, below_set, GE1273.out, GE1275.out]⟩⟩
  ·replace c8 := Bool.eq_false_iff.mpr c8
   subst c8
   have H1 : (schismaref03_To.j0 k a0 false) = some (r1, r2) := by rw [if_neg (show ¬ (false = true) by decide)] at H; exact H
   clear H
   have H := H1
   clear H1
   have H' := Aside0.mk H
   clear H
   go_wp2
   go_meet
   case rel => exact ⟨_, (a0), (by first | rfl | (simp; done) | (simp [*]; done)), H', ⟨by first | omega | exact Nat.le_refl _⟩, ⟨by (with_reducible repeat (first | refine blk_drewN ?_ _ | refine blk_drew ?_ | refine blk_alloc ?_ _)); refine blk_far ?_ NB1273_1275.out _; (with_reducible repeat (first | refine blk_drewN ?_ _ | refine blk_drew ?_ | refine blk_alloc ?_ _)); refine blk_far ?_ NB1273_1275.out _; apply_rules [BK1273.out, blk_drewN, blk_drew, blk_alloc]⟩, ⟨by (with_reducible repeat (first | refine blk_drewN ?_ _ | refine blk_drew ?_ | refine blk_alloc ?_ _)); refine blk_put (cs := #[.bool false, .slice none 0 0]) ?_ 1 _ rfl; (with_reducible repeat (first | refine blk_drewN ?_ _ | refine blk_drew ?_ | refine blk_alloc ?_ _)); refine blk_put (cs := #[.bool false, .slice none 0 0]) ?_ 0 _ rfl; apply_rules [BK1275.out, blk_drewN, blk_drew, blk_alloc]⟩, ⟨by apply_rules [HB.out, below_alloc, pw_below_drewN, below_drew1, below_set, GE1273.out, GE1275.out]⟩⟩
 case rest =>
  clear HC3
  obtain ⟨kq, x3_2, rfl, HA, HJ2, BK1273, BK1275, HB⟩ := hcut
  cases kq with
  | zero => exact absurd HA.out (by simp [schismaref03_To.j0])
  | succ kj2 =>
   have H := HA.out
   clear HA
   simp only [schismaref03_To.j0] at H
   have H' := Aside0.mk H
   clear H
   go_wp2
   go_loopg [3] kj2 (fun kq v3 w' => ∃ (x3_2 : ByteArray) (x1276001_2 : List Int) (u1276001 : Value), v3 = .string x3_2 ∧ Aside0 (schismaref03_To.l0 kq x3_2 t1274 x1276001_2 = some (r1, r2)) ∧ Aside0 (kq ≤ kj2) ∧ Aside0 (Kd.R (Kd.int .i64) 3 w' w.heap.size (fun k_ => (w.heap.size ≤ k_)) u1276001 x1276001_2) ∧ Aside0 (w'.heap[gb1273]? = some (.cells #[.bool false, (.slice none 0 0)] 101 (0, 0))) ∧ Aside0 (w'.heap[gb1275]? = some (.cells #[.bool t1274, u1276001] 101 (0, 0))) ∧ Aside0 (Below w.heap.size w w'))
   case atStart => exact ⟨(x3_2), (([] : List Int)), (.slice none 0 0), (by first | rfl | (simp; done) | (simp [*]; done)), H', ⟨Nat.le_refl _⟩, ⟨by first | exact Kd.R_nil _ _ _ _ _ | exact Kd.N_nil _ _ _ _ _ | exact Kd.V_nil _ _ _ _ _ | exact Kd.Q_nil _ _ _ _ _ | exact Kd.S_nil _ _ _ _ _⟩, ⟨by apply_rules [BK1273.out, blk_drewN, blk_drew, blk_alloc]⟩, ⟨by apply_rules [BK1275.out, blk_drewN, blk_drew, blk_alloc]⟩, ⟨by apply_rules [HB.out, below_alloc, pw_below_drewN, below_drew1, below_set, GE1273.out, GE1275.out]⟩⟩
   case round =>
    clear H'
    obtain ⟨x3_2, x1276001_2, u1276001, rfl, HA, HK2, HO_1276001, BK1273, BK1275, HB⟩ := hrel
    cases gk with
    | zero => exact absurd HA.out (by simp [schismaref03_To.l0])
    | succ k2 =>
     have H := HA.out
     clear HA
     simp only [schismaref03_To.l0] at H
     by_cases c10 : (x3_2.size : Int) > 0
     ·rw [if_pos c10] at H
      have c10b0 : decide (0 < (x3_2.size : Int)) = true := decide_eq_true c10
      have c10b1 : decide (0 < x3_2.size) = true := decide_eq_true (by omega)
      clear c10
      obtain ⟨ji11, hji11⟩ : ∃ j_ : Int, (mx 0 (wrap64 ((x3_2.size : Int) - 9))) = j_ := ⟨_, rfl⟩
      replace H : (if 0 ≤ (ji11) then (if (ji11) ≤ (x3_2.size : Int) then ((strconv_Atoi.f (x3_2.extract ((ji11) : Int).toNat x3_2.size)).bind fun bt1276 => (if x1276001_2.length < 17592186044416 then (schismaref03_To.l0 k2 (x3_2.extract 0 ((ji11) : Int).toNat) t1274 (x1276001_2 ++ [bt1276.1])) else (none))) else (none)) else (none)) = some (r1, r2) := by first | (rw [hji11] at H; exact H) | (simp only [hji11] at H ⊢; exact H)
      have hji11_ : (if 0 < (wrap64 ((x3_2.size : Int) - 9)) then (wrap64 ((x3_2.size : Int) - 9)) else 0) = ji11 := hji11
      by_cases c12 : 0 ≤ (ji11)
      case neg => rw [if_neg c12] at H; exact absurd H (by simp)
      rw [if_pos c12] at H
      have c12b0 := eq_true c12
      have c12b1 : decide (0 ≤ (ji11)) = true := decide_eq_true c12
      clear c12
      by_cases c13 : (ji11) ≤ (x3_2.size : Int)
      case neg => rw [if_neg c13] at H; exact absurd H (by simp)
      rw [if_pos c13] at H
      have c13b0 := eq_true c13
      have c13b1 : decide ((ji11) ≤ (x3_2.size : Int)) = true := decide_eq_true c13
      clear c13
      replace H := Option.bind_eq_some_iff.mp H
      obtain ⟨⟨t1276, t1277⟩, A140, H⟩ := H
      try dsimp only at H
      have A14 := Aside0.mk A140
      clear A140
      by_cases c15 : x1276001_2.length < 17592186044416
      case neg => rw [if_neg c15] at H; exact absurd H (by simp)
      rw [if_pos c15] at H
      have LMc15 := Aside0.mk c15
      clear c15
      obtain ⟨y1278, hy1278⟩ : ∃ y_ : List Int, y_ = (x1276001_2 ++ [t1276]) := ⟨_, rfl⟩
      replace H : (schismaref03_To.l0 k2 (x3_2.extract 0 ((ji11) : Int).toNat) t1274 y1278) = some (r1, r2) := by first | (rw [hy1278]; with_reducible exact H) | (have H2_ := (Option.bind_some _ _).symm.trans H; rw [hy1278]; with_reducible exact H2_) | (have H2_ := (Option.bind_some _ _).symm.trans H; with_reducible exact H2_) | with_reducible exact H | (rw [hy1278]; exact H) | exact H
      have Ny1278 := Aside0.mk hy1278
      clear hy1278
      have c16b0 := eq_true (of_decide_eq_true (by assumption) : 0 ≤ (ji11))
      have c17b0 := eq_true (of_decide_eq_true (by assumption) : (ji11) ≤ (x3_2.size : Int))
      have H' := Aside0.mk H
      clear H
      go_wp2_with (first | ((with_reducible refine gate_callee (f := 133) rfl ?_); refine goesL_ (some 27) rfl rfl Tryz.func133 (by kernel_rfl) rfl #[.string (x3_2.extract ((ji11) : Int).toNat x3_2.size)] rfl (by (try simp only [List.map_toArray, List.map_cons, List.map_nil]); first | done | (simp only [hji11]; rfl) | rfl | (simp only [List.length_drop, List.length_take]; rfl)) ?_; (with_reducible refine (strconv_Atoi.calls (x3_2.extract ((ji11) : Int).toNat x3_2.size) t1276 t1277 _ ?side1 A14.out).mono ?_); (case side1 => refine TabW.below hT ?_; apply_rules [HB.out, below_alloc, pw_below_drewN, below_drew1, below_set, GE1273.out, GE1275.out]); rintro e w18 ⟨ex_, rfl, hx_, hb⟩; refine ⟨_, rfl, ?_⟩; replace HO_1276001 := Aside0.mk (Kd.R_below (by apply_rules [HO_1276001.out, Kd.R_alloc, Kd.R_drewN, Kd.R_drew]) hb); replace BK1273 := Aside0.mk (blk_below (g := gb1273) (o := .cells #[.bool false, .slice none 0 0] 101 (0, 0)) (by apply_rules [BK1273.out, blk_drewN, blk_drew, blk_alloc]) hb); replace BK1275 := Aside0.mk (blk_below (g := gb1275) (o := .cells #[.bool t1274, u1276001] 101 (0, 0)) (by apply_rules [BK1275.out, blk_drewN, blk_drew, blk_alloc]) hb); replace HB := Aside0.mk (below_step (by apply_rules [HB.out, below_alloc, pw_below_drewN, below_drew1, below_set, GE1273.out, GE1275.out]) hb); (try clear hb); (first | (have hx2_ := errIs_none hx_; clear hx_; subst hx2_) | (obtain ⟨qx_, hx2_⟩ := errIs_some hx_; clear hx_; subst hx2_) | skip); have hnb19 := NB1275_1273.out; have hnc19 := NB1273_1275.out; have hcz20_0 : w18.cell? ⟨gb1275, 0, none⟩ = some (.bool t1274) := (blk_cell BK1275.out 0).trans rfl; have hcz20_1 : w18.cell? ⟨gb1275, 1, none⟩ = some (u1276001) := (blk_cell BK1275.out 1).trans rfl; have hfz20_0 := blk_frozen BK1275.out 0; have hfz20_1 := blk_frozen BK1275.out 1) | ((with_reducible refine gate_builtin (b := .append) (xs := #[.tmp 31, .tmp 33]) rfl ?_); at_builtin; refine Kd.R_append (Kd.int .i64) (w0 := w) w.heap.size rfl (.tmp 31) (.tmp 33) 22 3 (.int .i64 0) 8 rfl Tryz.underlying22 info3 rfl (by decide) (by omega) u1276001 x1276001_2 t1276 [.int .i64 t1276] (fun k_ => (w.heap.size ≤ k_)) (fun _ => False) rfl rfl ?aP (fun _ hk => hk.elim) ?aF ?aO ?aB ?aS ?aL ?_; (case aP => exact rfl); (case aB => exact (by apply_rules [HB.out, below_alloc, pw_below_drewN, below_drew1, below_set, GE1273.out, GE1275.out])); (case aF => exact (fun k_ hk => (Nat.le_trans (below_size (by apply_rules [HB.out, below_alloc, pw_below_drewN, below_drew1, below_set, GE1273.out, GE1275.out])) hk))); (case aO => exact (by apply_rules [HO_1276001.out, Kd.R_alloc, Kd.R_drewN, Kd.R_drew])); (case aS => exact (below_size (by apply_rules [HB.out, below_alloc, pw_below_drewN, below_drew1, below_set, GE1273.out, GE1275.out]))); (case aL => have := LMc15.out; omega); intro v1279 w21 ho hb hg hat; rw [← Ny1278.out] at ho; replace BK1273 := Aside0.mk (blk_grown (g := gb1273) (o := .cells #[.bool false, .slice none 0 0] 101 (0, 0)) (by apply_rules [BK1273.out, blk_drewN, blk_drew, blk_alloc]) hg (Kd.R_ne HO_1276001.out BK1273.out (by decide))); replace BK1275 := Aside0.mk (blk_grown (g := gb1275) (o := .cells #[.bool t1274, u1276001] 101 (0, 0)) (by apply_rules [BK1275.out, blk_drewN, blk_drew, blk_alloc]) hg (Kd.R_ne HO_1276001.out BK1275.out (by decide))); replace HB := Aside0.mk (hb); have HO1280 := Aside0.mk (ho); clear HO_1276001; clear ho hb hg hat; obtain ⟨Ao22, co22, eo22⟩ := Kd.R_slice HO1280.out; subst eo22; have hcz23_0 : w21.cell? ⟨gb1275, 0, none⟩ = some (.bool t1274) := (blk_cell BK1275.out 0).trans rfl; have hcz23_1 : w21.cell? ⟨gb1275, 1, none⟩ = some (u1276001) := (blk_cell BK1275.out 1).trans rfl; have hfz23_0 := blk_frozen BK1275.out 0; have hfz23_1 := blk_frozen BK1275.out 1))
      go_roundg k2
      case measure => have := HJ2.out; have := HK2.out; omega
      case rel => exact ⟨(x3_2.extract 0 ((ji11) : Int).toNat), (y1278), (.slice Ao22 y1278.length co22), (by first | rfl | (simp; done) | (simp only [← hji11] <;> (first | rfl | simp)) | (simp [*]; done)), H', ⟨by have := HJ2.out; have := HK2.out; omega⟩, ⟨by (with_reducible repeat (first | apply Kd.R_alloc | apply Kd.R_drewN | apply Kd.R_drew)); exact Kd.R_mono (Kd.R_far (p := ⟨gb1275, 1, none⟩) (Kd.R_types HO1280.out BK1275.out (by decide)) (fun _ hk => hk.2) (.slice Ao22 y1278.length co22)) (fun _ hk => hk.1)⟩, ⟨by (with_reducible repeat (first | refine blk_drewN ?_ _ | refine blk_drew ?_ | refine blk_alloc ?_ _)); refine blk_far ?_ NB1273_1275.out _; apply_rules [BK1273.out, blk_drewN, blk_drew, blk_alloc]⟩, ⟨by (with_reducible repeat (first | refine blk_drewN ?_ _ | refine blk_drew ?_ | refine blk_alloc ?_ _)); refine blk_put (cs := #[.bool t1274, u1276001]) ?_ 1 _ rfl; apply_rules [BK1275.out, blk_drewN, blk_drew, blk_alloc]⟩, ⟨by apply_rules [HB.out, below_alloc, pw_below_drewN, below_drew1, below_set, GE1273.out, GE1275.out]⟩⟩
     ·rw [if_neg c10] at H
      have c10b0 : decide (0 < (x3_2.size : Int)) = false := decide_eq_false c10
      have c10b1 : decide (0 < x3_2.size) = false := decide_eq_false (by omega)
      clear c10
      replace H := Option.bind_eq_some_iff.mp H
      obtain ⟨⟨t1281, t1282⟩, A240, H⟩ := H
      try dsimp only at H
      have A24 := Aside0.mk A240
      clear A240
      simp only [Option.some.injEq, Prod.mk.injEq] at H
      obtain ⟨rfl, rfl⟩ := H
      have hnb25 := NB1275_1273.out
      have hnc25 := NB1273_1275.out
      have hcz26_0 : wr.cell? ⟨gb1275, 0, none⟩ = some (.bool t1274) := (blk_cell BK1275.out 0).trans rfl
      have hcz26_1 : wr.cell? ⟨gb1275, 1, none⟩ = some (u1276001) := (blk_cell BK1275.out 1).trans rfl
      have hfz26_0 := blk_frozen BK1275.out 0
      have hfz26_1 := blk_frozen BK1275.out 1
      obtain ⟨Ao27, co27, eo27⟩ := Kd.R_slice HO_1276001.out
      subst eo27
      go_wp2_with (first | ((with_reducible refine gate_callee (f := 145) rfl ?_); refine goesK (some 40) Tryz.func145 [.agg #[.bool t1274, .slice Ao27 x1276001_2.length co27]] rfl rfl ?_; (with_reducible refine (schismaref03_trim.calls k2 t1274 (fun k_ => some k_ = (.slice Ao27 x1276001_2.length co27 : Value).ownBlock) _ _ x1276001_2 t1281 t1282 _ ?side1 A24.out).mono ?_); (case side1 => exact Kd.R_V (Kd.R_tight rfl (Kd.R_types (Kd.R_types (HO_1276001.out) BK1273.out (by decide)) BK1275.out (by decide)))); rintro e w28 ⟨v1283, rfl, ho0, hb⟩; refine ⟨_, rfl, ?_⟩; have n0_ := Aside0.mk (Kd.R_below (by apply_rules [HO_1276001.out, Kd.R_alloc, Kd.R_drewN, Kd.R_drew]) hb); have n1_ := Aside0.mk (Kd.V_lower (Kd.V_mono (ok' := fun k_ => (w.heap.size ≤ k_) ∧ k_ ≠ gb1273 ∧ k_ ≠ gb1275) ho0 (fun k_ hk_ => ⟨Or.elim hk_ (fun hs_ => ((Kd.R_types (Kd.R_types (HO_1276001.out) BK1273.out (by decide)) BK1275.out (by decide)).1 k_ hs_.symm).1.1) (fun hn_ => (Nat.le_trans (below_size (by apply_rules [HB.out, below_alloc, pw_below_drewN, below_drew1, below_set, GE1273.out, GE1275.out])) hn_)), Or.elim hk_ (fun hs_ => ((Kd.R_types (Kd.R_types (HO_1276001.out) BK1273.out (by decide)) BK1275.out (by decide)).1 k_ hs_.symm).1.2) (fun hn_ => (Kd.freshB (g := gb1273) (o := .cells #[.bool false, .slice none 0 0] 101 (0, 0)) (by apply_rules [BK1273.out, blk_drewN, blk_drew, blk_alloc]) k_ hn_)), Or.elim hk_ (fun hs_ => ((Kd.R_types (Kd.R_types (HO_1276001.out) BK1273.out (by decide)) BK1275.out (by decide)).1 k_ hs_.symm).2) (fun hn_ => (Kd.freshB (g := gb1275) (o := .cells #[.bool t1274, .slice Ao27 x1276001_2.length co27] 101 (0, 0)) (by apply_rules [BK1275.out, blk_drewN, blk_drew, blk_alloc]) k_ hn_))⟩)) (below_size (by apply_rules [HB.out, below_alloc, pw_below_drewN, below_drew1, below_set, GE1273.out, GE1275.out]))); have n2_ := Aside0.mk (blk_below (g := gb1273) (o := .cells #[.bool false, .slice none 0 0] 101 (0, 0)) (by apply_rules [BK1273.out, blk_drewN, blk_drew, blk_alloc]) hb); have n3_ := Aside0.mk (blk_below (g := gb1275) (o := .cells #[.bool t1274, .slice Ao27 x1276001_2.length co27] 101 (0, 0)) (by apply_rules [BK1275.out, blk_drewN, blk_drew, blk_alloc]) hb); have n4_ := Aside0.mk (below_step (by apply_rules [HB.out, below_alloc, pw_below_drewN, below_drew1, below_set, GE1273.out, GE1275.out]) hb); clear HO_1276001; clear BK1273; clear BK1275; clear HB; have HO_1276001 := n0_; have HO1284 := n1_; have BK1273 := n2_; have BK1275 := n3_; have HB := n4_; clear n0_ n1_ n2_ n3_ n4_; (try clear hb); (try clear ho0); have hcz29_0 : w28.cell? ⟨gb1273, 0, none⟩ = some (.bool false) := (blk_cell BK1273.out 0).trans rfl; have hcz29_1 : w28.cell? ⟨gb1273, 1, none⟩ = some (.slice none 0 0) := (blk_cell BK1273.out 1).trans rfl; have hfz29_0 := blk_frozen BK1273.out 0; have hfz29_1 := blk_frozen BK1273.out 1; obtain ⟨Ao30, co30, eo30⟩ := Kd.V_slice HO1284.out; subst eo30))
      refine bodyPost_ret (results_cell_row rfl _ _ gb1273 101 #[.bool t1281, .slice Ao30 t1282.length co30] (0, 0) _ rfl (by (with_reducible repeat (first | refine blk_drewN ?_ _ | refine blk_drew ?_ | refine blk_alloc ?_ _)); refine blk_put (cs := #[.bool t1281, .slice none 0 0]) ?_ 1 _ rfl; (with_reducible repeat (first | refine blk_drewN ?_ _ | refine blk_drew ?_ | refine blk_alloc ?_ _)); refine blk_put (cs := #[.bool false, .slice none 0 0]) ?_ 0 _ rfl; apply_rules [BK1273.out, blk_drewN, blk_drew, blk_alloc]) Tryz.underlying101 rfl (by kernel_rfl)) rfl ?_
      exact ⟨_, by first | rfl | simp [*], by (with_reducible repeat (first | apply Kd.V_alloc | apply Kd.V_drewN | apply Kd.V_drew)); exact Kd.V_mono (Kd.V_far (p := ⟨gb1273, 1, none⟩) (Kd.V_far (p := ⟨gb1273, 0, none⟩) (Kd.V_mono HO1284.out (fun k_ hk => (⟨hk, hk.2.1⟩ : _ ∧ k_ ≠ gb1273))) (fun _ hk => hk.2) (.bool t1281)) (fun _ hk => hk.2) (.slice Ao30 t1282.length co30)) (fun _ hk => hk.1.1), by apply_rules [HB.out, below_alloc, pw_below_drewN, below_drew1, below_set, GE1273.out, GE1275.out]⟩
end Go.Proofs.YtccebdpjdpjgnaaGreatDoor.P
end
section
namespace Go.Proofs.YtccebdpjdpjgnaaGreatDoor.P
open Go.RowKit Go.Proofs.YtccebdpjdpjgnaaGreatDoorW.PrintWords Go.Proofs.YtccebdpjdpjgnaaGreatDoorW.PrintLast Go.Proofs.YtccebdpjdpjgnaaGreatDoorW.PrintMore
def strings_Repeat.f (a0 : ByteArray) (a1 : Int) : Option ByteArray := if 0 ≤ a1 ∧ a1 ≤ 9223372036854775807 ∧ a0.size * a1.toNat ≤ 140737488355328 then some ⟨(Lib.repeatL a0.data.toList a1.toNat).toArray⟩ else none
theorem strings_Repeat.calls (a0 : ByteArray) (a1 : Int) (r : ByteArray) (w : World) (h : strings_Repeat.f a0 a1 = some r) :
  Calls Tryz.prog 134 #[.string a0, .int .i64 a1] w fun e w' => e = .returned (.string r) ∧ Below w.heap.size w w' := by
 unfold strings_Repeat.f at h
 split at h
 ·next hb =>
  injection h with h
  subst h
  obtain ⟨n, rfl⟩ := Int.eq_ofNat_of_zero_le hb.1
  rw [Int.toNat_natCast] at hb ⊢
  exact Tryz.strings_Repeat a0 n w (by omega) hb.2.2
 ·cases h
end Go.Proofs.YtccebdpjdpjgnaaGreatDoor.P
end
