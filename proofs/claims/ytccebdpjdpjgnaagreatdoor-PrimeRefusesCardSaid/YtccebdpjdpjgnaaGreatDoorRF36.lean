/-
parts of the walks and of the plain laws: Pcutprimeopen PcutprimeFactor PcutprimeValue Pprimetwo PcutprimeEmbed PcutprimeRestrict PcutprimeText PcutprimeSmooth PcutprimeJoin ExtWithinC
-/
import Derived.Test.YtccebdpjdpjgnaaGreatDoorRF23
set_option linter.unusedVariables false
set_option linter.unusedSimpArgs false
section
namespace Go.Proofs.YtccebdpjdpjgnaaGreatDoor.P
open Go.RowKit Go.Proofs.YtccebdpjdpjgnaaGreatDoorW.PrintWords Go.Proofs.YtccebdpjdpjgnaaGreatDoorW.PrintLast Go.Proofs.YtccebdpjdpjgnaaGreatDoorW.PrintMore
attribute [local go_sem] max2_int min2_int max_two min_two max_three min_three max_four min_four
def cprime_open.f (k : Nat) (l0 : List Int) (a1_0 : ByteArray) (a1_1 : ByteArray) : Option (Int) := (prime_Check.f k l0).bind fun t1033 => (if t1033 = 0 then (none) else (some t1033))
set_option maxHeartbeats 8000000 in
set_option maxRecDepth 100000 in
theorem cprime_open.calls (k : Nat) (A0 : Option Addr) (c0 : Nat) (l0 : List Int) (a1_0 : ByteArray) (a1_1 : ByteArray) (r : Int) (w : World) (hT : TabW w) (hr0 : Kd.C (Kd.int .i64) w A0 l0.length l0) (hc0 : l0.length ≤ c0) (h : cprime_open.f k l0 a1_0 a1_1 = some r) :
  Calls Tryz.prog 137 #[.slice A0 l0.length c0, .agg #[.string a1_0, .string a1_1]] w fun e w' => e = .returned (.int .i64 r) ∧ Below w.heap.size w w' := by
 have hu38 := Tryz.underlying38
 have HR0 := Aside0.mk hr0
 have HC0 := Aside0.mk hc0
 clear hr0 hc0
 have HB := Aside0.mk (Below.refl w.heap.size w)
 have H : ((prime_Check.f k l0).bind fun t1033 => (if t1033 = 0 then (none) else (some t1033))) = some r := h
 clear h
 replace H := Option.bind_eq_some_iff.mp H
 obtain ⟨t1033, A30, H⟩ := H
 try dsimp only at H
 have A3 := Aside0.mk A30
 clear A30
 by_cases c4 : t1033 = 0
 case pos => rw [if_pos c4] at H; exact absurd H (by simp)
 rw [if_neg c4] at H
 have c4b0 : (t1033 == 0) = false := beq_eq_false_iff_ne.mpr c4
 have c4b1 : (t1033 != 0) = true := bne_iff_ne.mpr c4
 obtain rfl := Option.some.inj H
 go_enter Tryz.func137, Tryz.ntmps137
 go_wp2_with (first | ((with_reducible refine gate_dst (N := 3) rfl ?_); refine box_event ?hg (N := 3) ?hd (cs := #[.string a1_0, .string a1_1]) (t := 38) ?hr ?_; (case hd => rfl); (case hg => rfl); (case hr => go_simp; try rfl); intro gb1032 hg w9 hbox hb; have n0_ := Aside0.mk (below_step (by apply_rules [HB.out, below_alloc, pw_below_drewN, below_drew1]) hb); have n1_ := Aside0.mk (hbox); have n2_ := Aside0.mk ((by rw [hg]; exact (below_size (by apply_rules [HB.out, below_alloc, pw_below_drewN, below_drew1])) : w.heap.size ≤ gb1032)); have n3_ := Aside0.mk ((by rw [hg]; exact (below_size (by apply_rules [HB.out, below_alloc, pw_below_drewN, below_drew1])) : w.heap.size ≤ gb1032)); clear HB; have HB := n0_; have BK1032 := n1_; have GW1032 := n2_; have GE1032 := n3_; clear n0_ n1_ n2_ n3_; clear hb hbox hg) | ((with_reducible refine gate_callee (f := 29) rfl ?_); refine goesK (some 7) Tryz.func29 [.slice A0 l0.length c0] rfl rfl ?_; (with_reducible refine (prime_Check.calls k _ _ l0 t1033 _ ?side1 ?side2 A3.out).mono ?_); (case side1 => apply_rules [(Kd.C_below HR0.out HB.out), Kd.C_alloc, Kd.C_drewN, Kd.C_drew]); (case side2 => exact HC0.out); rintro e w' ⟨rfl, ⟨nd, rfl⟩⟩; refine ⟨_, rfl, ?_⟩))
 go_ret
 exact ⟨by first | rfl | simp [*], by apply_rules [HB.out, below_alloc, pw_below_drewN, below_drew1, below_set, GE1032.out]⟩
def cprime_Factor.f (k : Nat) (l0 : List Int) (a1_0 : ByteArray) (a1_1 : ByteArray) : Option (List Int × Int) := (cprime_open.f k l0 a1_0 a1_1).bind fun t1051 => (if t1051 = 0 then (none) else (some (([] : List Int), t1051)))
set_option maxHeartbeats 8000000 in
set_option maxRecDepth 100000 in
theorem cprime_Factor.calls (k : Nat) (A0 : Option Addr) (c0 : Nat) (l0 : List Int) (a1_0 : ByteArray) (a1_1 : ByteArray) (r1 : List Int) (r2 : Int) (w : World) (hT : TabW w) (hr0 : Kd.C (Kd.int .i64) w A0 l0.length l0) (hc0 : l0.length ≤ c0) (h : cprime_Factor.f k l0 a1_0 a1_1 = some (r1, r2)) :
  Calls Tryz.prog 78 #[.slice A0 l0.length c0, .agg #[.string a1_0, .string a1_1]] w fun e w' => ∃ v0_ : Value, e = .returned (.tuple #[v0_, .int .i64 r2]) ∧ Kd.R (Kd.int .i64) 3 w' w.heap.size (fun _ => True) v0_ r1 ∧ Below w.heap.size w w' := by
 have hu38 := Tryz.underlying38
 have HR0 := Aside0.mk hr0
 have HC0 := Aside0.mk hc0
 clear hr0 hc0
 have HB := Aside0.mk (Below.refl w.heap.size w)
 have H : ((cprime_open.f k l0 a1_0 a1_1).bind fun t1051 => (if t1051 = 0 then (none) else (some (([] : List Int), t1051)))) = some (r1, r2) := h
 clear h
 replace H := Option.bind_eq_some_iff.mp H
 obtain ⟨t1051, A30, H⟩ := H
 try dsimp only at H
 have A3 := Aside0.mk A30
 clear A30
 by_cases c4 : t1051 = 0
 case pos => rw [if_pos c4] at H; exact absurd H (by simp)
 rw [if_neg c4] at H
 have c4b0 : (t1051 == 0) = false := beq_eq_false_iff_ne.mpr c4
 have c4b1 : (t1051 != 0) = true := bne_iff_ne.mpr c4
 simp only [Option.some.injEq, Prod.mk.injEq] at H
 obtain ⟨rfl, rfl⟩ := H
 go_enter Tryz.func78, Tryz.ntmps78
 go_wp2_with (first | ((with_reducible refine gate_dst (N := 3) rfl ?_); refine box_event ?hg (N := 3) ?hd (cs := #[.string a1_0, .string a1_1]) (t := 38) ?hr ?_; (case hd => rfl); (case hg => rfl); (case hr => go_simp; try rfl); intro gb1050 hg w41 hbox hb; have n0_ := Aside0.mk (below_step (by apply_rules [HB.out, below_alloc, pw_below_drewN, below_drew1]) hb); have n1_ := Aside0.mk (hbox); have n2_ := Aside0.mk ((by rw [hg]; exact (below_size (by apply_rules [HB.out, below_alloc, pw_below_drewN, below_drew1])) : w.heap.size ≤ gb1050)); have n3_ := Aside0.mk ((by rw [hg]; exact (below_size (by apply_rules [HB.out, below_alloc, pw_below_drewN, below_drew1])) : w.heap.size ≤ gb1050)); clear HB; have HB := n0_; have BK1050 := n1_; have GW1050 := n2_; have GE1050 := n3_; clear n0_ n1_ n2_ n3_; clear hb hbox hg; have hcz42_0 : w41.cell? ⟨gb1050, 0, none⟩ = some (.string a1_0) := (blk_cell BK1050.out 0).trans rfl; have hcz42_1 : w41.cell? ⟨gb1050, 1, none⟩ = some (.string a1_1) := (blk_cell BK1050.out 1).trans rfl; have hfz42_0 := blk_frozen BK1050.out 0; have hfz42_1 := blk_frozen BK1050.out 1) | ((with_reducible refine gate_callee (f := 137) rfl ?_); refine goesK (some 11) Tryz.func137 [.slice A0 l0.length c0, .agg #[.string a1_0, .string a1_1]] rfl rfl ?_; (with_reducible refine (cprime_open.calls k _ _ l0 a1_0 a1_1 t1051 _ ?side1 ?side2 ?side3 A3.out).mono ?_); (case side1 => refine TabW.below hT ?_; apply_rules [HB.out, below_alloc, pw_below_drewN, below_drew1, below_set, GE1050.out]); (case side2 => apply_rules [(Kd.C_below HR0.out HB.out), Kd.C_alloc, Kd.C_drewN, Kd.C_drew]); (case side3 => exact HC0.out); rintro e w43 ⟨rfl, hb⟩; refine ⟨_, rfl, ?_⟩; replace BK1050 := Aside0.mk (blk_below (g := gb1050) (o := .cells #[.string a1_0, .string a1_1] 38 (0, 0)) (by apply_rules [BK1050.out, blk_drewN, blk_drew, blk_alloc]) hb); replace HB := Aside0.mk (below_step (by apply_rules [HB.out, below_alloc, pw_below_drewN, below_drew1, below_set, GE1050.out]) hb); (try clear hb)))
 go_ret2
 exact ⟨(.slice none 0 0), by first | rfl | simp [*], by first | exact Kd.R_nil _ _ _ _ _ | exact Kd.N_nil _ _ _ _ _ | exact Kd.V_nil _ _ _ _ _ | exact Kd.Q_nil _ _ _ _ _ | exact Kd.S_nil _ _ _ _ _, by apply_rules [HB.out, below_alloc, pw_below_drewN, below_drew1, below_set, GE1050.out]⟩
def cprime_Value.f (k : Nat) (l0 : List Int) (l1 : List Int) : Option (ByteArray × ByteArray × Int) := (prime_Check.f k l0).bind fun t1064 => (if t1064 = 0 then (none) else (some ((⟨#[]⟩ : ByteArray), (⟨#[]⟩ : ByteArray), t1064)))
set_option maxHeartbeats 8000000 in
set_option maxRecDepth 100000 in
theorem cprime_Value.calls (k : Nat) (A0 : Option Addr) (c0 : Nat) (l0 : List Int) (A1 : Option Addr) (c1 : Nat) (l1 : List Int) (r1 : ByteArray) (r2 : ByteArray) (r3 : Int) (w : World) (hT : TabW w) (hr0 : Kd.C (Kd.int .i64) w A0 l0.length l0) (hc0 : l0.length ≤ c0) (hr1 : Kd.C (Kd.int .i64) w A1 l1.length l1) (hc1 : l1.length ≤ c1) (h : cprime_Value.f k l0 l1 = some (r1, r2, r3)) :
  Calls Tryz.prog 79 #[.slice A0 l0.length c0, .slice A1 l1.length c1] w fun e w' => e = .returned (.tuple #[.agg #[.string r1, .string r2], .int .i64 r3]) ∧ Below w.heap.size w w' := by
 have hu38 := Tryz.underlying38
 have HR0 := Aside0.mk hr0
 have HC0 := Aside0.mk hc0
 clear hr0 hc0
 have HR1 := Aside0.mk hr1
 have HC1 := Aside0.mk hc1
 clear hr1 hc1
 have HB := Aside0.mk (Below.refl w.heap.size w)
 have H : ((prime_Check.f k l0).bind fun t1064 => (if t1064 = 0 then (none) else (some ((⟨#[]⟩ : ByteArray), (⟨#[]⟩ : ByteArray), t1064)))) = some (r1, r2, r3) := h
 clear h
 replace H := Option.bind_eq_some_iff.mp H
 obtain ⟨t1064, A30, H⟩ := H
 try dsimp only at H
 have A3 := Aside0.mk A30
 clear A30
 by_cases c4 : t1064 = 0
 case pos => rw [if_pos c4] at H; exact absurd H (by simp)
 rw [if_neg c4] at H
 have c4b0 : (t1064 == 0) = false := beq_eq_false_iff_ne.mpr c4
 have c4b1 : (t1064 != 0) = true := bne_iff_ne.mpr c4
 simp only [Option.some.injEq, Prod.mk.injEq] at H
 obtain ⟨rfl, rfl, rfl⟩ := H
 go_enter Tryz.func79, Tryz.ntmps79
 go_wp2_with (first | ((with_reducible refine gate_dst (N := 4) rfl ?_); refine box_event ?hg (N := 4) ?hd (cs := #[.string (⟨#[]⟩ : ByteArray), .string (⟨#[]⟩ : ByteArray)]) (t := 38) ?hr ?_; (case hd => rfl); (case hg => rfl); (case hr => go_simp; try rfl); intro gb1063 hg w29 hbox hb; have n0_ := Aside0.mk (below_step (by apply_rules [HB.out, below_alloc, pw_below_drewN, below_drew1]) hb); have n1_ := Aside0.mk (hbox); have n2_ := Aside0.mk ((by rw [hg]; exact (below_size (by apply_rules [HB.out, below_alloc, pw_below_drewN, below_drew1])) : w.heap.size ≤ gb1063)); have n3_ := Aside0.mk ((by rw [hg]; exact (below_size (by apply_rules [HB.out, below_alloc, pw_below_drewN, below_drew1])) : w.heap.size ≤ gb1063)); clear HB; have HB := n0_; have BK1063 := n1_; have GW1063 := n2_; have GE1063 := n3_; clear n0_ n1_ n2_ n3_; clear hb hbox hg) | ((with_reducible refine gate_callee (f := 29) rfl ?_); refine goesK (some 13) Tryz.func29 [.slice A0 l0.length c0] rfl rfl ?_; (with_reducible refine (prime_Check.calls k _ _ l0 t1064 _ ?side1 ?side2 A3.out).mono ?_); (case side1 => apply_rules [(Kd.C_below HR0.out HB.out), Kd.C_alloc, Kd.C_drewN, Kd.C_drew]); (case side2 => exact HC0.out); rintro e w' ⟨rfl, ⟨nd, rfl⟩⟩; refine ⟨_, rfl, ?_⟩; (try (rw [drewN_self w29]; generalize hq_ : World.drewN w29 _ = w29; have n0_ : Aside0 (w29.heap[gb1063]? = some (.cells #[.string (⟨#[]⟩ : ByteArray), .string (⟨#[]⟩ : ByteArray)] 38 (0, 0))) := ⟨by rw [← hq_]; exact (by apply_rules [BK1063.out, blk_drewN, blk_drew, blk_alloc])⟩; have n1_ : Aside0 (Below w.heap.size w w29) := ⟨by rw [← hq_]; exact (by apply_rules [HB.out, below_alloc, pw_below_drewN, below_drew1, below_set, GE1063.out])⟩; clear BK1063 HB hq_; have BK1063 := n0_; have HB := n1_; clear n0_ n1_)); have hcz30_0 : w29.cell? ⟨gb1063, 0, none⟩ = some (.string (⟨#[]⟩ : ByteArray)) := (blk_cell BK1063.out 0).trans rfl; have hcz30_1 : w29.cell? ⟨gb1063, 1, none⟩ = some (.string (⟨#[]⟩ : ByteArray)) := (blk_cell BK1063.out 1).trans rfl; have hfz30_0 := blk_frozen BK1063.out 0; have hfz30_1 := blk_frozen BK1063.out 1))
 refine bodyPost_ret (results_ct rfl _ _ gb1063 38 #[.string (⟨#[]⟩ : ByteArray), .string (⟨#[]⟩ : ByteArray)] (0, 0) _ rfl (by (with_reducible repeat (first | refine blk_drewN ?_ _ | refine blk_drew ?_ | refine blk_alloc ?_ _)); refine blk_put (cs := #[.string (⟨#[]⟩ : ByteArray), .string (⟨#[]⟩ : ByteArray)]) ?_ 1 _ rfl; (with_reducible repeat (first | refine blk_drewN ?_ _ | refine blk_drew ?_ | refine blk_alloc ?_ _)); refine blk_put (cs := #[.string (⟨#[]⟩ : ByteArray), .string (⟨#[]⟩ : ByteArray)]) ?_ 0 _ rfl; apply_rules [BK1063.out, blk_drewN, blk_drew, blk_alloc]) Tryz.underlying38 rfl (by kernel_rfl)) rfl ?_
 exact ⟨by first | rfl | simp [*], by apply_rules [HB.out, below_alloc, pw_below_drewN, below_drew1, below_set, GE1063.out]⟩
def prime_two.f (k : Nat) (l0 : List Int) (l1 : List Int) : Option (Int) := (prime_Check.f k l0).bind fun t1145 => (if t1145 = 0 then ((prime_Check.f k l1).bind fun t1146 => (some t1146)) else (some t1145))
set_option maxHeartbeats 8000000 in
set_option maxRecDepth 100000 in
theorem prime_two.calls (k : Nat) (A0 : Option Addr) (c0 : Nat) (l0 : List Int) (A1 : Option Addr) (c1 : Nat) (l1 : List Int) (r : Int) (w : World) (hr0 : Kd.C (Kd.int .i64) w A0 l0.length l0) (hc0 : l0.length ≤ c0) (hr1 : Kd.C (Kd.int .i64) w A1 l1.length l1) (hc1 : l1.length ≤ c1) (h : prime_two.f k l0 l1 = some r) :
  Calls Tryz.prog 127 #[.slice A0 l0.length c0, .slice A1 l1.length c1] w fun e w' => e = .returned (.int .i64 r) ∧ Drawn0 w w' := by
 have HR0 := Aside0.mk hr0
 have HC0 := Aside0.mk hc0
 clear hr0 hc0
 have HR1 := Aside0.mk hr1
 have HC1 := Aside0.mk hc1
 clear hr1 hc1
 have H : ((prime_Check.f k l0).bind fun t1145 => (if t1145 = 0 then ((prime_Check.f k l1).bind fun t1146 => (some t1146)) else (some t1145))) = some r := h
 clear h
 replace H := Option.bind_eq_some_iff.mp H
 obtain ⟨t1145, A30, H⟩ := H
 try dsimp only at H
 have A3 := Aside0.mk A30
 clear A30
 by_cases c4 : t1145 = 0
 ·rw [if_pos c4] at H
  have c4b0 : (t1145 == 0) = true := beq_iff_eq.mpr c4
  have c4b1 : (t1145 != 0) = false := bne_eq_false_iff_eq.mpr c4
  clear c4
  replace H := Option.bind_eq_some_iff.mp H
  obtain ⟨t1146, A50, H⟩ := H
  try dsimp only at H
  have A5 := Aside0.mk A50
  clear A50
  obtain rfl := Option.some.inj H
  go_enter Tryz.func127, Tryz.ntmps127
  go_wp2_with (first | ((with_reducible refine gate_callee (f := 29) rfl ?_); refine goesK (some 7) Tryz.func29 [.slice A0 l0.length c0] rfl rfl ?_; (with_reducible refine (prime_Check.calls k _ _ l0 t1145 _ ?side1 ?side2 A3.out).mono ?_); (case side1 => apply_rules [HR0.out, Kd.C_alloc, Kd.C_drewN, Kd.C_drew]); (case side2 => exact HC0.out); rintro e w' ⟨rfl, ⟨nd, rfl⟩⟩; refine ⟨_, rfl, ?_⟩) | ((with_reducible refine gate_callee (f := 29) rfl ?_); refine goesK (some 12) Tryz.func29 [.slice A1 l1.length c1] rfl rfl ?_; (with_reducible refine (prime_Check.calls k _ _ l1 t1146 _ ?side1 ?side2 A5.out).mono ?_); (case side1 => apply_rules [HR1.out, Kd.C_alloc, Kd.C_drewN, Kd.C_drew]); (case side2 => exact HC1.out); rintro e w' ⟨rfl, ⟨nd, rfl⟩⟩; refine ⟨_, rfl, ?_⟩))
  go_ret
  exact ⟨by first | rfl | (simp; done) | (simp [*]; done), by repeat (first | exact Drawn0.refl _ | apply Drawn0.step)⟩
 ·rw [if_neg c4] at H
  have c4b0 : (t1145 == 0) = false := beq_eq_false_iff_ne.mpr c4
  have c4b1 : (t1145 != 0) = true := bne_iff_ne.mpr c4
  obtain rfl := Option.some.inj H
  go_enter Tryz.func127, Tryz.ntmps127
  go_wp2_with (first | ((with_reducible refine gate_callee (f := 29) rfl ?_); refine goesK (some 7) Tryz.func29 [.slice A0 l0.length c0] rfl rfl ?_; (with_reducible refine (prime_Check.calls k _ _ l0 t1145 _ ?side1 ?side2 A3.out).mono ?_); (case side1 => apply_rules [HR0.out, Kd.C_alloc, Kd.C_drewN, Kd.C_drew]); (case side2 => exact HC0.out); rintro e w' ⟨rfl, ⟨nd, rfl⟩⟩; refine ⟨_, rfl, ?_⟩))
  go_ret
  exact ⟨by first | rfl | (simp; done) | (simp [*]; done), by repeat (first | exact Drawn0.refl _ | apply Drawn0.step)⟩
def cprime_Embed.f (k : Nat) (l0 : List Int) (l1 : List Int) (l2 : List Int) : Option (List Int × Int) := (prime_two.f k l0 l1).bind fun t1157 => (if t1157 = 0 then (none) else (some (([] : List Int), t1157)))
set_option maxHeartbeats 8000000 in
set_option maxRecDepth 100000 in
theorem cprime_Embed.calls (k : Nat) (A0 : Option Addr) (c0 : Nat) (l0 : List Int) (A1 : Option Addr) (c1 : Nat) (l1 : List Int) (A2 : Option Addr) (c2 : Nat) (l2 : List Int) (r1 : List Int) (r2 : Int) (w : World) (hr0 : Kd.C (Kd.int .i64) w A0 l0.length l0) (hc0 : l0.length ≤ c0) (hr1 : Kd.C (Kd.int .i64) w A1 l1.length l1) (hc1 : l1.length ≤ c1) (hr2 : Kd.C (Kd.int .i64) w A2 l2.length l2) (hc2 : l2.length ≤ c2) (h : cprime_Embed.f k l0 l1 l2 = some (r1, r2)) :
  Calls Tryz.prog 67 #[.slice A0 l0.length c0, .slice A1 l1.length c1, .slice A2 l2.length c2] w fun e w' => ∃ v0_ : Value, e = .returned (.tuple #[v0_, .int .i64 r2]) ∧ Kd.R (Kd.int .i64) 3 w' w.heap.size (fun _ => True) v0_ r1 ∧ Below w.heap.size w w' := by
 have HR0 := Aside0.mk hr0
 have HC0 := Aside0.mk hc0
 clear hr0 hc0
 have HR1 := Aside0.mk hr1
 have HC1 := Aside0.mk hc1
 clear hr1 hc1
 have HR2 := Aside0.mk hr2
 have HC2 := Aside0.mk hc2
 clear hr2 hc2
 have HB := Aside0.mk (Below.refl w.heap.size w)
 have H : ((prime_two.f k l0 l1).bind fun t1157 => (if t1157 = 0 then (none) else (some (([] : List Int), t1157)))) = some (r1, r2) := h
 clear h
 replace H := Option.bind_eq_some_iff.mp H
 obtain ⟨t1157, A40, H⟩ := H
 try dsimp only at H
 have A4 := Aside0.mk A40
 clear A40
 by_cases c5 : t1157 = 0
 case pos => rw [if_pos c5] at H; exact absurd H (by simp)
 rw [if_neg c5] at H
 have c5b0 : (t1157 == 0) = false := beq_eq_false_iff_ne.mpr c5
 have c5b1 : (t1157 != 0) = true := bne_iff_ne.mpr c5
 simp only [Option.some.injEq, Prod.mk.injEq] at H
 obtain ⟨rfl, rfl⟩ := H
 go_enter Tryz.func67, Tryz.ntmps67
 go_wp2_with (first | ((with_reducible refine gate_callee (f := 127) rfl ?_); refine goesK (some 14) Tryz.func127 [.slice A0 l0.length c0, .slice A1 l1.length c1] rfl rfl ?_; (with_reducible refine (prime_two.calls k _ _ l0 _ _ l1 t1157 _ ?side1 ?side2 ?side3 ?side4 A4.out).mono ?_); (case side1 => apply_rules [HR0.out, Kd.C_alloc, Kd.C_drewN, Kd.C_drew]); (case side2 => exact HC0.out); (case side3 => apply_rules [HR1.out, Kd.C_alloc, Kd.C_drewN, Kd.C_drew]); (case side4 => exact HC1.out); rintro e w' ⟨rfl, ⟨nd, rfl⟩⟩; refine ⟨_, rfl, ?_⟩))
 go_ret2
 exact ⟨(.slice none 0 0), by first | rfl | simp [*], by first | exact Kd.R_nil _ _ _ _ _ | exact Kd.N_nil _ _ _ _ _ | exact Kd.V_nil _ _ _ _ _ | exact Kd.Q_nil _ _ _ _ _ | exact Kd.S_nil _ _ _ _ _, by apply_rules [HB.out, below_alloc, pw_below_drewN, below_drew1]⟩
def cprime_Restrict.f (k : Nat) (l0 : List Int) (l1 : List Int) (l2 : List Int) : Option (List Int × Int) := (prime_two.f k l0 l1).bind fun t1163 => (if t1163 = 0 then (none) else (some (([] : List Int), t1163)))
set_option maxHeartbeats 8000000 in
set_option maxRecDepth 100000 in
theorem cprime_Restrict.calls (k : Nat) (A0 : Option Addr) (c0 : Nat) (l0 : List Int) (A1 : Option Addr) (c1 : Nat) (l1 : List Int) (A2 : Option Addr) (c2 : Nat) (l2 : List Int) (r1 : List Int) (r2 : Int) (w : World) (hr0 : Kd.C (Kd.int .i64) w A0 l0.length l0) (hc0 : l0.length ≤ c0) (hr1 : Kd.C (Kd.int .i64) w A1 l1.length l1) (hc1 : l1.length ≤ c1) (hr2 : Kd.C (Kd.int .i64) w A2 l2.length l2) (hc2 : l2.length ≤ c2) (h : cprime_Restrict.f k l0 l1 l2 = some (r1, r2)) :
  Calls Tryz.prog 68 #[.slice A0 l0.length c0, .slice A1 l1.length c1, .slice A2 l2.length c2] w fun e w' => ∃ v0_ : Value, e = .returned (.tuple #[v0_, .int .i64 r2]) ∧ Kd.R (Kd.int .i64) 3 w' w.heap.size (fun _ => True) v0_ r1 ∧ Below w.heap.size w w' := by
 have HR0 := Aside0.mk hr0
 have HC0 := Aside0.mk hc0
 clear hr0 hc0
 have HR1 := Aside0.mk hr1
 have HC1 := Aside0.mk hc1
 clear hr1 hc1
 have HR2 := Aside0.mk hr2
 have HC2 := Aside0.mk hc2
 clear hr2 hc2
 have HB := Aside0.mk (Below.refl w.heap.size w)
 have H : ((prime_two.f k l0 l1).bind fun t1163 => (if t1163 = 0 then (none) else (some (([] : List Int), t1163)))) = some (r1, r2) := h
 clear h
 replace H := Option.bind_eq_some_iff.mp H
 obtain ⟨t1163, A40, H⟩ := H
 try dsimp only at H
 have A4 := Aside0.mk A40
 clear A40
 by_cases c5 : t1163 = 0
 case pos => rw [if_pos c5] at H; exact absurd H (by simp)
 rw [if_neg c5] at H
 have c5b0 : (t1163 == 0) = false := beq_eq_false_iff_ne.mpr c5
 have c5b1 : (t1163 != 0) = true := bne_iff_ne.mpr c5
 simp only [Option.some.injEq, Prod.mk.injEq] at H
 obtain ⟨rfl, rfl⟩ := H
 go_enter Tryz.func68, Tryz.ntmps68
 go_wp2_with (first | ((with_reducible refine gate_callee (f := 127) rfl ?_); refine goesK (some 14) Tryz.func127 [.slice A0 l0.length c0, .slice A1 l1.length c1] rfl rfl ?_; (with_reducible refine (prime_two.calls k _ _ l0 _ _ l1 t1163 _ ?side1 ?side2 ?side3 ?side4 A4.out).mono ?_); (case side1 => apply_rules [HR0.out, Kd.C_alloc, Kd.C_drewN, Kd.C_drew]); (case side2 => exact HC0.out); (case side3 => apply_rules [HR1.out, Kd.C_alloc, Kd.C_drewN, Kd.C_drew]); (case side4 => exact HC1.out); rintro e w' ⟨rfl, ⟨nd, rfl⟩⟩; refine ⟨_, rfl, ?_⟩))
 go_ret2
 exact ⟨(.slice none 0 0), by first | rfl | simp [*], by first | exact Kd.R_nil _ _ _ _ _ | exact Kd.N_nil _ _ _ _ _ | exact Kd.V_nil _ _ _ _ _ | exact Kd.Q_nil _ _ _ _ _ | exact Kd.S_nil _ _ _ _ _, by apply_rules [HB.out, below_alloc, pw_below_drewN, below_drew1]⟩
def cprime_Text.f (k : Nat) (l0 : List Int) : Option (ByteArray × Int) := (prime_Check.f k l0).bind fun t1201 => (if t1201 = 0 then (none) else (some ((⟨#[]⟩ : ByteArray), t1201)))
set_option maxHeartbeats 8000000 in
set_option maxRecDepth 100000 in
theorem cprime_Text.calls (k : Nat) (A0 : Option Addr) (c0 : Nat) (l0 : List Int) (r1 : ByteArray) (r2 : Int) (w : World) (hT : TabW w) (hr0 : Kd.C (Kd.int .i64) w A0 l0.length l0) (hc0 : l0.length ≤ c0) (h : cprime_Text.f k l0 = some (r1, r2)) :
  Calls Tryz.prog 72 #[.slice A0 l0.length c0] w fun e w' => e = .returned (.tuple #[.string r1, .int .i64 r2]) ∧ Below w.heap.size w w' := by
 have HR0 := Aside0.mk hr0
 have HC0 := Aside0.mk hc0
 clear hr0 hc0
 have HB := Aside0.mk (Below.refl w.heap.size w)
 have H : ((prime_Check.f k l0).bind fun t1201 => (if t1201 = 0 then (none) else (some ((⟨#[]⟩ : ByteArray), t1201)))) = some (r1, r2) := h
 clear h
 replace H := Option.bind_eq_some_iff.mp H
 obtain ⟨t1201, A20, H⟩ := H
 try dsimp only at H
 have A2 := Aside0.mk A20
 clear A20
 by_cases c3 : t1201 = 0
 case pos => rw [if_pos c3] at H; exact absurd H (by simp)
 rw [if_neg c3] at H
 have c3b0 : (t1201 == 0) = false := beq_eq_false_iff_ne.mpr c3
 have c3b1 : (t1201 != 0) = true := bne_iff_ne.mpr c3
 simp only [Option.some.injEq, Prod.mk.injEq] at H
 obtain ⟨rfl, rfl⟩ := H
 go_enter Tryz.func72, Tryz.ntmps72
 go_wp2_with (first | ((with_reducible refine gate_callee (f := 29) rfl ?_); refine goesK (some 9) Tryz.func29 [.slice A0 l0.length c0] rfl rfl ?_; (with_reducible refine (prime_Check.calls k _ _ l0 t1201 _ ?side1 ?side2 A2.out).mono ?_); (case side1 => apply_rules [HR0.out, Kd.C_alloc, Kd.C_drewN, Kd.C_drew]); (case side2 => exact HC0.out); rintro e w' ⟨rfl, ⟨nd, rfl⟩⟩; refine ⟨_, rfl, ?_⟩))
 go_ret2
 exact ⟨by first | rfl | simp [*], by apply_rules [HB.out, below_alloc, pw_below_drewN, below_drew1]⟩
def cprime_Smooth.f (k : Nat) (l0 : List Int) (a1_0 : ByteArray) (a1_1 : ByteArray) : Option (Bool × Int) := (cprime_open.f k l0 a1_0 a1_1).bind fun t1388 => (if t1388 = 0 then (none) else (some (false, t1388)))
set_option maxHeartbeats 8000000 in
set_option maxRecDepth 100000 in
theorem cprime_Smooth.calls (k : Nat) (A0 : Option Addr) (c0 : Nat) (l0 : List Int) (a1_0 : ByteArray) (a1_1 : ByteArray) (r1 : Bool) (r2 : Int) (w : World) (hT : TabW w) (hr0 : Kd.C (Kd.int .i64) w A0 l0.length l0) (hc0 : l0.length ≤ c0) (h : cprime_Smooth.f k l0 a1_0 a1_1 = some (r1, r2)) :
  Calls Tryz.prog 81 #[.slice A0 l0.length c0, .agg #[.string a1_0, .string a1_1]] w fun e w' => e = .returned (.tuple #[.bool r1, .int .i64 r2]) ∧ Below w.heap.size w w' := by
 have hu38 := Tryz.underlying38
 have HR0 := Aside0.mk hr0
 have HC0 := Aside0.mk hc0
 clear hr0 hc0
 have HB := Aside0.mk (Below.refl w.heap.size w)
 have H : ((cprime_open.f k l0 a1_0 a1_1).bind fun t1388 => (if t1388 = 0 then (none) else (some (false, t1388)))) = some (r1, r2) := h
 clear h
 replace H := Option.bind_eq_some_iff.mp H
 obtain ⟨t1388, A30, H⟩ := H
 try dsimp only at H
 have A3 := Aside0.mk A30
 clear A30
 by_cases c4 : t1388 = 0
 case pos => rw [if_pos c4] at H; exact absurd H (by simp)
 rw [if_neg c4] at H
 have c4b0 : (t1388 == 0) = false := beq_eq_false_iff_ne.mpr c4
 have c4b1 : (t1388 != 0) = true := bne_iff_ne.mpr c4
 simp only [Option.some.injEq, Prod.mk.injEq] at H
 obtain ⟨rfl, rfl⟩ := H
 go_enter Tryz.func81, Tryz.ntmps81
 go_wp2_with (first | ((with_reducible refine gate_dst (N := 3) rfl ?_); refine box_event ?hg (N := 3) ?hd (cs := #[.string a1_0, .string a1_1]) (t := 38) ?hr ?_; (case hd => rfl); (case hg => rfl); (case hr => go_simp; try rfl); intro gb1387 hg w11 hbox hb; have n0_ := Aside0.mk (below_step (by apply_rules [HB.out, below_alloc, pw_below_drewN, below_drew1]) hb); have n1_ := Aside0.mk (hbox); have n2_ := Aside0.mk ((by rw [hg]; exact (below_size (by apply_rules [HB.out, below_alloc, pw_below_drewN, below_drew1])) : w.heap.size ≤ gb1387)); have n3_ := Aside0.mk ((by rw [hg]; exact (below_size (by apply_rules [HB.out, below_alloc, pw_below_drewN, below_drew1])) : w.heap.size ≤ gb1387)); clear HB; have HB := n0_; have BK1387 := n1_; have GW1387 := n2_; have GE1387 := n3_; clear n0_ n1_ n2_ n3_; clear hb hbox hg; have hcz12_0 : w11.cell? ⟨gb1387, 0, none⟩ = some (.string a1_0) := (blk_cell BK1387.out 0).trans rfl; have hcz12_1 : w11.cell? ⟨gb1387, 1, none⟩ = some (.string a1_1) := (blk_cell BK1387.out 1).trans rfl; have hfz12_0 := blk_frozen BK1387.out 0; have hfz12_1 := blk_frozen BK1387.out 1) | ((with_reducible refine gate_callee (f := 137) rfl ?_); refine goesK (some 11) Tryz.func137 [.slice A0 l0.length c0, .agg #[.string a1_0, .string a1_1]] rfl rfl ?_; (with_reducible refine (cprime_open.calls k _ _ l0 a1_0 a1_1 t1388 _ ?side1 ?side2 ?side3 A3.out).mono ?_); (case side1 => refine TabW.below hT ?_; apply_rules [HB.out, below_alloc, pw_below_drewN, below_drew1, below_set, GE1387.out]); (case side2 => apply_rules [(Kd.C_below HR0.out HB.out), Kd.C_alloc, Kd.C_drewN, Kd.C_drew]); (case side3 => exact HC0.out); rintro e w13 ⟨rfl, hb⟩; refine ⟨_, rfl, ?_⟩; replace BK1387 := Aside0.mk (blk_below (g := gb1387) (o := .cells #[.string a1_0, .string a1_1] 38 (0, 0)) (by apply_rules [BK1387.out, blk_drewN, blk_drew, blk_alloc]) hb); replace HB := Aside0.mk (below_step (by apply_rules [HB.out, below_alloc, pw_below_drewN, below_drew1, below_set, GE1387.out]) hb); (try clear hb)))
 go_ret2
 exact ⟨by first | rfl | simp [*], by apply_rules [HB.out, below_alloc, pw_below_drewN, below_drew1, below_set, GE1387.out]⟩
def cprime_Join.f (k : Nat) (l0 : List Int) (l1 : List Int) : Option (List Int × Int) := (prime_two.f k l0 l1).bind fun t1653 => (if t1653 = 0 then (none) else (some (([] : List Int), t1653)))
set_option maxHeartbeats 8000000 in
set_option maxRecDepth 100000 in
theorem cprime_Join.calls (k : Nat) (P0_ : Nat → Prop) (A0 : Option Addr) (c0 : Nat) (l0 : List Int) (P1_ : Nat → Prop) (A1 : Option Addr) (c1 : Nat) (l1 : List Int) (r1 : List Int) (r2 : Int) (w : World) (hs0 : Kd.V (Kd.int .i64) 3 w w.heap.size (fun k_ => P0_ k_) (.slice A0 l0.length c0) l0) (hs1 : Kd.V (Kd.int .i64) 3 w w.heap.size (fun k_ => P1_ k_) (.slice A1 l1.length c1) l1) (h : cprime_Join.f k l0 l1 = some (r1, r2)) :
  Calls Tryz.prog 88 #[.slice A0 l0.length c0, .slice A1 l1.length c1] w fun e w' => ∃ v0_ : Value, e = .returned (.tuple #[v0_, .int .i64 r2]) ∧ Kd.R (Kd.int .i64) 3 w' w.heap.size (fun k_ => (w.heap.size ≤ k_)) v0_ r1 ∧ Below w.heap.size w w' := by
 have HO0 := Aside0.mk (show Kd.V (Kd.int .i64) 3 w w.heap.size (fun k_ => ((P0_ k_ ∨ P1_ k_) ∨ w.heap.size ≤ k_)) (.slice A0 l0.length c0) l0 from Kd.V_mono hs0 (fun k_ hk => .inl (.inl hk)))
 have HO1 := Aside0.mk (show Kd.V (Kd.int .i64) 3 w w.heap.size (fun k_ => ((P0_ k_ ∨ P1_ k_) ∨ w.heap.size ≤ k_)) (.slice A1 l1.length c1) l1 from Kd.V_mono hs1 (fun k_ hk => .inl (.inr hk)))
 have HB := Aside0.mk (Below.refl w.heap.size w)
 have H : ((prime_two.f k l0 l1).bind fun t1653 => (if t1653 = 0 then (none) else (some (([] : List Int), t1653)))) = some (r1, r2) := h
 clear h
 replace H := Option.bind_eq_some_iff.mp H
 obtain ⟨t1653, A30, H⟩ := H
 try dsimp only at H
 have A3 := Aside0.mk A30
 clear A30
 by_cases c4 : t1653 = 0
 case pos => rw [if_pos c4] at H; exact absurd H (by simp)
 rw [if_neg c4] at H
 have c4b0 : (t1653 == 0) = false := beq_eq_false_iff_ne.mpr c4
 have c4b1 : (t1653 != 0) = true := bne_iff_ne.mpr c4
 simp only [Option.some.injEq, Prod.mk.injEq] at H
 obtain ⟨rfl, rfl⟩ := H
 go_enter Tryz.func88, Tryz.ntmps88
 go_wp2_with (first | ((with_reducible refine gate_callee (f := 127) rfl ?_); refine goesK (some 10) Tryz.func127 [.slice A0 l0.length c0, .slice A1 l1.length c1] rfl rfl ?_; (with_reducible refine (prime_two.calls k _ _ l0 _ _ l1 t1653 _ ?side1 ?side2 ?side3 ?side4 A3.out).mono ?_); (case side1 => apply_rules [(Kd.V_reads' HO0.out).2.2, Kd.C_alloc, Kd.C_drewN, Kd.C_drew]); (case side2 => exact (Kd.V_reads' HO0.out).2.1); (case side3 => apply_rules [(Kd.V_reads' HO1.out).2.2, Kd.C_alloc, Kd.C_drewN, Kd.C_drew]); (case side4 => exact (Kd.V_reads' HO1.out).2.1); rintro e w' ⟨rfl, ⟨nd, rfl⟩⟩; refine ⟨_, rfl, ?_⟩))
 go_ret2
 exact ⟨(.slice none 0 0), by first | rfl | simp [*], by first | exact Kd.R_nil _ _ _ _ _ | exact Kd.N_nil _ _ _ _ _ | exact Kd.V_nil _ _ _ _ _ | exact Kd.Q_nil _ _ _ _ _ | exact Kd.S_nil _ _ _ _ _, by apply_rules [HB.out, below_alloc, pw_below_drewN, below_drew1]⟩
end Go.Proofs.YtccebdpjdpjgnaaGreatDoor.P
end
section
namespace Go.Proofs.YtccebdpjdpjgnaaGreatDoor.P
open Go.RowKit Go.Proofs.YtccebdpjdpjgnaaGreatDoorW.PrintWords Go.Proofs.YtccebdpjdpjgnaaGreatDoorW.PrintLast Go.Proofs.YtccebdpjdpjgnaaGreatDoorW.PrintMore
def cprime_Within.f (k : Nat) (l0 l1 : List Int) : Option (Bool × Int) := (prime_two.f k l0 l1).bind fun e => if e = 0 then none else some (false, e)
set_option maxHeartbeats 1000000 in
theorem cprime_Within.calls (k : Nat) (A0 : Option Addr) (c0 : Nat) (l0 : List Int) (A1 : Option Addr) (c1 : Nat) (l1 : List Int) (r1 : Bool) (r2 : Int) (w : World) (hr0 : Kd.C (Kd.int .i64) w A0 l0.length l0) (hc0 : l0.length ≤ c0) (hr1 : Kd.C (Kd.int .i64) w A1 l1.length l1) (hc1 : l1.length ≤ c1) (h : cprime_Within.f k l0 l1 = some (r1, r2)) :
  Calls Tryz.prog 87 #[.slice A0 l0.length c0, .slice A1 l1.length c1] w fun e w' => e = .returned (.tuple #[.bool r1, .int .i64 r2]) ∧ Below w.heap.size w w' := by
 unfold cprime_Within.f at h
 have hb0 : Below w.heap.size w (w.alloc (.cells #[.slice A1 l1.length c1] 23)) := below_alloc (Below.refl _ _) _
 obtain ⟨e, he, h⟩ := Option.bind_eq_some_iff.mp h
 go_enter Tryz.func87, Tryz.ntmps87
 go_wp2_with fail
 refine (prime_two.calls k _ _ l0 _ _ l1 e _ (Kd.C_below hr0 hb0) hc0 (Kd.C_below hr1 hb0) hc1 he).mono ?_
 rintro e' w1 ⟨rfl, q1, rfl⟩
 have hb1 : Below w.heap.size w ((w.alloc (.cells #[.slice A1 l1.length c1] 23)).drewN q1) := pw_below_drewN hb0 q1
 clear hr0 hr1 hb0
 generalize (w.alloc (.cells #[.slice A1 l1.length c1] 23)).drewN q1 = w1 at *
 by_cases hz : e = 0
 ·rw [if_pos hz] at h
  exact absurd h (by simp)
 ·rw [if_neg hz] at h
  simp only [Option.some.injEq, Prod.mk.injEq] at h
  obtain ⟨rfl, rfl⟩ := h
  have he1 : (e != 0) = true := bne_iff_ne.mpr hz
  go_wp2
  go_ret2
  exact ⟨rfl, by repeat (first | (with_reducible first | exact hb1 | apply below_alloc | apply pw_below_drewN | apply below_drew1) | exact hb1)⟩
end Go.Proofs.YtccebdpjdpjgnaaGreatDoor.P
end
