/-
parts of the walks and of the plain laws: PprimeValue PEq0 PapiPrimesint63 PapiRowint
-/
import Derived.Test.YtccebdpjdpjgnaaGreatDoorJN30
set_option linter.unusedVariables false
set_option linter.unusedSimpArgs false
section
namespace Go.Proofs.YtccebdpjdpjgnaaGreatDoor.P
open Go.RowKit Go.Proofs.YtccebdpjdpjgnaaGreatDoorW.PrintWords Go.Proofs.YtccebdpjdpjgnaaGreatDoorW.PrintLast Go.Proofs.YtccebdpjdpjgnaaGreatDoorW.PrintMore
attribute [local go_sem] max2_int min2_int max_two min_two max_three min_three max_four min_four
def prime_Value.f (k : Nat) (l0 : List Int) (l1 : List Int) : Option (ByteArray × ByteArray × Int) := (prime_Check.f k l0).bind fun t1064 => (if t1064 = 0 then ((prime_fits.f l0 l1).bind fun t1065 => (if t1065 = 0 then ((prime_power.f k l0 l1 1).bind fun bt1066 => ((prime_power.f k l0 l1 (-1)).bind fun bt1068 => (if bt1066.2 = true then (if bt1068.2 = true then (some (bt1066.1, bt1068.1, 0)) else (some ((⟨#[]⟩ : ByteArray), (⟨#[]⟩ : ByteArray), 4))) else (some ((⟨#[]⟩ : ByteArray), (⟨#[]⟩ : ByteArray), 4))))) else (some ((⟨#[]⟩ : ByteArray), (⟨#[]⟩ : ByteArray), t1065)))) else (some ((⟨#[]⟩ : ByteArray), (⟨#[]⟩ : ByteArray), t1064)))
set_option maxHeartbeats 8000000 in
set_option maxRecDepth 100000 in
theorem prime_Value.calls (k : Nat) (A0 : Option Addr) (c0 : Nat) (l0 : List Int) (A1 : Option Addr) (c1 : Nat) (l1 : List Int) (r1 : ByteArray) (r2 : ByteArray) (r3 : Int) (w : World) (hT : TabW w) (hr0 : Kd.C (Kd.int .i64) w A0 l0.length l0) (hc0 : l0.length ≤ c0) (hr1 : Kd.C (Kd.int .i64) w A1 l1.length l1) (hc1 : l1.length ≤ c1) (h : prime_Value.f k l0 l1 = some (r1, r2, r3)) :
  Calls Tryz.prog 79 #[.slice A0 l0.length c0, .slice A1 l1.length c1] w fun e w' => e = .returned (.tuple #[.agg #[.string r1, .string r2], .int .i64 r3]) ∧ Below w.heap.size w w' := by
 have hu38 := Tryz.underlying38
 have HR0 := Aside0.mk hr0
 have HC0 := Aside0.mk hc0
 clear hr0 hc0
 have HR1 := Aside0.mk hr1
 have HC1 := Aside0.mk hc1
 clear hr1 hc1
 have HB := Aside0.mk (Below.refl w.heap.size w)
 have H : ((prime_Check.f k l0).bind fun t1064 => (if t1064 = 0 then ((prime_fits.f l0 l1).bind fun t1065 => (if t1065 = 0 then ((prime_power.f k l0 l1 1).bind fun bt1066 => ((prime_power.f k l0 l1 (-1)).bind fun bt1068 => (if bt1066.2 = true then (if bt1068.2 = true then (some (bt1066.1, bt1068.1, 0)) else (some ((⟨#[]⟩ : ByteArray), (⟨#[]⟩ : ByteArray), 4))) else (some ((⟨#[]⟩ : ByteArray), (⟨#[]⟩ : ByteArray), 4))))) else (some ((⟨#[]⟩ : ByteArray), (⟨#[]⟩ : ByteArray), t1065)))) else (some ((⟨#[]⟩ : ByteArray), (⟨#[]⟩ : ByteArray), t1064)))) = some (r1, r2, r3) := h
 clear h
 replace H := Option.bind_eq_some_iff.mp H
 obtain ⟨t1064, A30, H⟩ := H
 try dsimp only at H
 have A3 := Aside0.mk A30
 clear A30
 by_cases c4 : t1064 = 0
 ·rw [if_pos c4] at H
  have c4b0 : (t1064 == 0) = true := beq_iff_eq.mpr c4
  have c4b1 : (t1064 != 0) = false := bne_eq_false_iff_eq.mpr c4
  clear c4
  replace H := Option.bind_eq_some_iff.mp H
  obtain ⟨t1065, A50, H⟩ := H
  try dsimp only at H
  have A5 := Aside0.mk A50
  clear A50
  by_cases c6 : t1065 = 0
  ·rw [if_pos c6] at H
   have c6b0 : (t1065 == 0) = true := beq_iff_eq.mpr c6
   have c6b1 : (t1065 != 0) = false := bne_eq_false_iff_eq.mpr c6
   clear c6
   replace H := Option.bind_eq_some_iff.mp H
   obtain ⟨⟨t1066, t1067⟩, A70, H⟩ := H
   try dsimp only at H
   have A7 := Aside0.mk A70
   clear A70
   replace H := Option.bind_eq_some_iff.mp H
   obtain ⟨⟨t1068, t1069⟩, A80, H⟩ := H
   try dsimp only at H
   have A8 := Aside0.mk A80
   clear A80
   by_cases c9 : t1067 = true
   ·subst c9
    have H1 : (if t1069 = true then (some (t1066, t1068, 0)) else (some ((⟨#[]⟩ : ByteArray), (⟨#[]⟩ : ByteArray), 4))) = some (r1, r2, r3) := by rw [if_pos rfl] at H; exact H
    clear H
    have H := H1
    clear H1
    by_cases c10 : t1069 = true
    ·subst c10
     have H1 : (some (t1066, t1068, 0)) = some (r1, r2, r3) := by rw [if_pos rfl] at H; exact H
     clear H
     have H := H1
     clear H1
     simp only [Option.some.injEq, Prod.mk.injEq] at H
     obtain ⟨rfl, rfl, rfl⟩ := H
     go_enter Tryz.func79, Tryz.ntmps79
     go_wp2_with (first | ((with_reducible refine gate_dst (N := 4) rfl ?_); refine box_event ?hg (N := 4) ?hd (cs := #[.string (⟨#[]⟩ : ByteArray), .string (⟨#[]⟩ : ByteArray)]) (t := 38) ?hr ?_; (case hd => rfl); (case hg => rfl); (case hr => go_simp; try rfl); intro gb1063 hg w11 hbox hb; have n0_ := Aside0.mk (below_step (by apply_rules [HB.out, below_alloc, pw_below_drewN, below_drew1]) hb); have n1_ := Aside0.mk (hbox); have n2_ := Aside0.mk ((by rw [hg]; exact (below_size (by apply_rules [HB.out, below_alloc, pw_below_drewN, below_drew1])) : w.heap.size ≤ gb1063)); have n3_ := Aside0.mk ((by rw [hg]; exact (below_size (by apply_rules [HB.out, below_alloc, pw_below_drewN, below_drew1])) : w.heap.size ≤ gb1063)); clear HB; have HB := n0_; have BK1063 := n1_; have GW1063 := n2_; have GE1063 := n3_; clear n0_ n1_ n2_ n3_; clear hb hbox hg) | ((with_reducible refine gate_callee (f := 29) rfl ?_); refine goesK (some 13) Tryz.func29 [.slice A0 l0.length c0] rfl rfl ?_; (with_reducible refine (prime_Check.calls k _ _ l0 t1064 _ ?side1 ?side2 A3.out).mono ?_); (case side1 => apply_rules [(Kd.C_below HR0.out HB.out), Kd.C_alloc, Kd.C_drewN, Kd.C_drew]); (case side2 => exact HC0.out); rintro e w' ⟨rfl, ⟨nd, rfl⟩⟩; refine ⟨_, rfl, ?_⟩; (try (rw [drewN_self w11]; generalize hq_ : World.drewN w11 _ = w11; have n0_ : Aside0 (w11.heap[gb1063]? = some (.cells #[.string (⟨#[]⟩ : ByteArray), .string (⟨#[]⟩ : ByteArray)] 38 (0, 0))) := ⟨by rw [← hq_]; exact (by apply_rules [BK1063.out, blk_drewN, blk_drew, blk_alloc])⟩; have n1_ : Aside0 (Below w.heap.size w w11) := ⟨by rw [← hq_]; exact (by apply_rules [HB.out, below_alloc, pw_below_drewN, below_drew1, below_set, GE1063.out])⟩; clear BK1063 HB hq_; have BK1063 := n0_; have HB := n1_; clear n0_ n1_))) | ((with_reducible refine gate_callee (f := 128) rfl ?_); refine goesK (some 20) Tryz.func128 [.slice A0 l0.length c0, .slice A1 l1.length c1] rfl rfl ?_; (with_reducible refine (prime_fits.calls _ _ l0 _ _ l1 t1065 _ ?side1 ?side2 ?side3 ?side4 A5.out).mono ?_); (case side1 => apply_rules [(Kd.C_below HR0.out HB.out), Kd.C_alloc, Kd.C_drewN, Kd.C_drew]); (case side2 => exact HC0.out); (case side3 => apply_rules [(Kd.C_below HR1.out HB.out), Kd.C_alloc, Kd.C_drewN, Kd.C_drew]); (case side4 => exact HC1.out); rintro e w12 ⟨rfl, hb⟩; refine ⟨_, rfl, ?_⟩; replace BK1063 := Aside0.mk (blk_below (g := gb1063) (o := .cells #[.string (⟨#[]⟩ : ByteArray), .string (⟨#[]⟩ : ByteArray)] 38 (0, 0)) (by apply_rules [BK1063.out, blk_drewN, blk_drew, blk_alloc]) hb); replace HB := Aside0.mk (below_step (by apply_rules [HB.out, below_alloc, pw_below_drewN, below_drew1, below_set, GE1063.out]) hb); (try clear hb)) | ((with_reducible refine gate_callee (f := 140) rfl ?_); refine goesK (some 28) Tryz.func140 [.slice A0 l0.length c0, .slice A1 l1.length c1, .int .i64 1] rfl rfl ?_; (with_reducible refine (prime_power.calls k _ _ l0 _ _ l1 1 t1066 true _ ?side1 ?side2 ?side3 ?side4 ?side5 A7.out).mono ?_); (case side1 => refine TabW.below hT ?_; apply_rules [HB.out, below_alloc, pw_below_drewN, below_drew1, below_set, GE1063.out]); (case side2 => apply_rules [(Kd.C_below HR0.out HB.out), Kd.C_alloc, Kd.C_drewN, Kd.C_drew]); (case side3 => exact HC0.out); (case side4 => apply_rules [(Kd.C_below HR1.out HB.out), Kd.C_alloc, Kd.C_drewN, Kd.C_drew]); (case side5 => exact HC1.out); rintro e w13 ⟨rfl, hb⟩; refine ⟨_, rfl, ?_⟩; replace BK1063 := Aside0.mk (blk_below (g := gb1063) (o := .cells #[.string (⟨#[]⟩ : ByteArray), .string (⟨#[]⟩ : ByteArray)] 38 (0, 0)) (by apply_rules [BK1063.out, blk_drewN, blk_drew, blk_alloc]) hb); replace HB := Aside0.mk (below_step (by apply_rules [HB.out, below_alloc, pw_below_drewN, below_drew1, below_set, GE1063.out]) hb); (try clear hb)) | ((with_reducible refine gate_callee (f := 140) rfl ?_); refine goesK (some 34) Tryz.func140 [.slice A0 l0.length c0, .slice A1 l1.length c1, .int .i64 (-1)] rfl rfl ?_; (with_reducible refine (prime_power.calls k _ _ l0 _ _ l1 (-1) t1068 true _ ?side1 ?side2 ?side3 ?side4 ?side5 A8.out).mono ?_); (case side1 => refine TabW.below hT ?_; apply_rules [HB.out, below_alloc, pw_below_drewN, below_drew1, below_set, GE1063.out]); (case side2 => apply_rules [(Kd.C_below HR0.out HB.out), Kd.C_alloc, Kd.C_drewN, Kd.C_drew]); (case side3 => exact HC0.out); (case side4 => apply_rules [(Kd.C_below HR1.out HB.out), Kd.C_alloc, Kd.C_drewN, Kd.C_drew]); (case side5 => exact HC1.out); rintro e w14 ⟨rfl, hb⟩; refine ⟨_, rfl, ?_⟩; replace BK1063 := Aside0.mk (blk_below (g := gb1063) (o := .cells #[.string (⟨#[]⟩ : ByteArray), .string (⟨#[]⟩ : ByteArray)] 38 (0, 0)) (by apply_rules [BK1063.out, blk_drewN, blk_drew, blk_alloc]) hb); replace HB := Aside0.mk (below_step (by apply_rules [HB.out, below_alloc, pw_below_drewN, below_drew1, below_set, GE1063.out]) hb); (try clear hb); have hcz15_0 : w14.cell? ⟨gb1063, 0, none⟩ = some (.string (⟨#[]⟩ : ByteArray)) := (blk_cell BK1063.out 0).trans rfl; have hcz15_1 : w14.cell? ⟨gb1063, 1, none⟩ = some (.string (⟨#[]⟩ : ByteArray)) := (blk_cell BK1063.out 1).trans rfl; have hfz15_0 := blk_frozen BK1063.out 0; have hfz15_1 := blk_frozen BK1063.out 1))
     refine bodyPost_ret (results_ct rfl _ _ gb1063 38 #[.string t1066, .string t1068] (0, 0) _ rfl (by (with_reducible repeat (first | refine blk_drewN ?_ _ | refine blk_drew ?_ | refine blk_alloc ?_ _)); refine blk_put (cs := #[.string t1066, .string (⟨#[]⟩ : ByteArray)]) ?_ 1 _ rfl; (with_reducible repeat (first | refine blk_drewN ?_ _ | refine blk_drew ?_ | refine blk_alloc ?_ _)); refine blk_put (cs := #[.string (⟨#[]⟩ : ByteArray), .string (⟨#[]⟩ : ByteArray)]) ?_ 0 _ rfl; apply_rules [BK1063.out, blk_drewN, blk_drew, blk_alloc]) Tryz.underlying38 rfl (by kernel_rfl)) rfl ?_
     exact ⟨by first | rfl | simp [*], by apply_rules [HB.out, below_alloc, pw_below_drewN, below_drew1, below_set, GE1063.out]⟩
    ·replace c10 := Bool.eq_false_iff.mpr c10
     subst c10
     have H1 : (some ((⟨#[]⟩ : ByteArray), (⟨#[]⟩ : ByteArray), 4)) = some (r1, r2, r3) := by rw [if_neg (show ¬ (false = true) by decide)] at H; exact H
     clear H
     have H := H1
     clear H1
     simp only [Option.some.injEq, Prod.mk.injEq] at H
     obtain ⟨rfl, rfl, rfl⟩ := H
     go_enter Tryz.func79, Tryz.ntmps79
     go_wp2_with (first | ((with_reducible refine gate_dst (N := 4) rfl ?_); refine box_event ?hg (N := 4) ?hd (cs := #[.string (⟨#[]⟩ : ByteArray), .string (⟨#[]⟩ : ByteArray)]) (t := 38) ?hr ?_; (case hd => rfl); (case hg => rfl); (case hr => go_simp; try rfl); intro gb1063 hg w16 hbox hb; have n0_ := Aside0.mk (below_step (by apply_rules [HB.out, below_alloc, pw_below_drewN, below_drew1]) hb); have n1_ := Aside0.mk (hbox); have n2_ := Aside0.mk ((by rw [hg]; exact (below_size (by apply_rules [HB.out, below_alloc, pw_below_drewN, below_drew1])) : w.heap.size ≤ gb1063)); have n3_ := Aside0.mk ((by rw [hg]; exact (below_size (by apply_rules [HB.out, below_alloc, pw_below_drewN, below_drew1])) : w.heap.size ≤ gb1063)); clear HB; have HB := n0_; have BK1063 := n1_; have GW1063 := n2_; have GE1063 := n3_; clear n0_ n1_ n2_ n3_; clear hb hbox hg) | ((with_reducible refine gate_callee (f := 29) rfl ?_); refine goesK (some 13) Tryz.func29 [.slice A0 l0.length c0] rfl rfl ?_; (with_reducible refine (prime_Check.calls k _ _ l0 t1064 _ ?side1 ?side2 A3.out).mono ?_); (case side1 => apply_rules [(Kd.C_below HR0.out HB.out), Kd.C_alloc, Kd.C_drewN, Kd.C_drew]); (case side2 => exact HC0.out); rintro e w' ⟨rfl, ⟨nd, rfl⟩⟩; refine ⟨_, rfl, ?_⟩; (try (rw [drewN_self w16]; generalize hq_ : World.drewN w16 _ = w16; have n0_ : Aside0 (w16.heap[gb1063]? = some (.cells #[.string (⟨#[]⟩ : ByteArray), .string (⟨#[]⟩ : ByteArray)] 38 (0, 0))) := ⟨by rw [← hq_]; exact (by apply_rules [BK1063.out, blk_drewN, blk_drew, blk_alloc])⟩; have n1_ : Aside0 (Below w.heap.size w w16) := ⟨by rw [← hq_]; exact (by apply_rules [HB.out, below_alloc, pw_below_drewN, below_drew1, below_set, GE1063.out])⟩; clear BK1063 HB hq_; have BK1063 := n0_; have HB := n1_; clear n0_ n1_))) | ((with_reducible refine gate_callee (f := 128) rfl ?_); refine goesK (some 20) Tryz.func128 [.slice A0 l0.length c0, .slice A1 l1.length c1] rfl rfl ?_; (with_reducible refine (prime_fits.calls _ _ l0 _ _ l1 t1065 _ ?side1 ?side2 ?side3 ?side4 A5.out).mono ?_); (case side1 => apply_rules [(Kd.C_below HR0.out HB.out), Kd.C_alloc, Kd.C_drewN, Kd.C_drew]); (case side2 => exact HC0.out); (case side3 => apply_rules [(Kd.C_below HR1.out HB.out), Kd.C_alloc, Kd.C_drewN, Kd.C_drew]); (case side4 => exact HC1.out); rintro e w17 ⟨rfl, hb⟩; refine ⟨_, rfl, ?_⟩; replace BK1063 := Aside0.mk (blk_below (g := gb1063) (o := .cells #[.string (⟨#[]⟩ : ByteArray), .string (⟨#[]⟩ : ByteArray)] 38 (0, 0)) (by apply_rules [BK1063.out, blk_drewN, blk_drew, blk_alloc]) hb); replace HB := Aside0.mk (below_step (by apply_rules [HB.out, below_alloc, pw_below_drewN, below_drew1, below_set, GE1063.out]) hb); (try clear hb)) | ((with_reducible refine gate_callee (f := 140) rfl ?_); refine goesK (some 28) Tryz.func140 [.slice A0 l0.length c0, .slice A1 l1.length c1, .int .i64 1] rfl rfl ?_; (with_reducible refine (prime_power.calls k _ _ l0 _ _ l1 1 t1066 true _ ?side1 ?side2 ?side3 ?side4 ?side5 A7.out).mono ?_); (case side1 => refine TabW.below hT ?_; apply_rules [HB.out, below_alloc, pw_below_drewN, below_drew1, below_set, GE1063.out]); (case side2 => apply_rules [(Kd.C_below HR0.out HB.out), Kd.C_alloc, Kd.C_drewN, Kd.C_drew]); (case side3 => exact HC0.out); (case side4 => apply_rules [(Kd.C_below HR1.out HB.out), Kd.C_alloc, Kd.C_drewN, Kd.C_drew]); (case side5 => exact HC1.out); rintro e w18 ⟨rfl, hb⟩; refine ⟨_, rfl, ?_⟩; replace BK1063 := Aside0.mk (blk_below (g := gb1063) (o := .cells #[.string (⟨#[]⟩ : ByteArray), .string (⟨#[]⟩ : ByteArray)] 38 (0, 0)) (by apply_rules [BK1063.out, blk_drewN, blk_drew, blk_alloc]) hb); replace HB := Aside0.mk (below_step (by apply_rules [HB.out, below_alloc, pw_below_drewN, below_drew1, below_set, GE1063.out]) hb); (try clear hb)) | ((with_reducible refine gate_callee (f := 140) rfl ?_); refine goesK (some 34) Tryz.func140 [.slice A0 l0.length c0, .slice A1 l1.length c1, .int .i64 (-1)] rfl rfl ?_; (with_reducible refine (prime_power.calls k _ _ l0 _ _ l1 (-1) t1068 false _ ?side1 ?side2 ?side3 ?side4 ?side5 A8.out).mono ?_); (case side1 => refine TabW.below hT ?_; apply_rules [HB.out, below_alloc, pw_below_drewN, below_drew1, below_set, GE1063.out]); (case side2 => apply_rules [(Kd.C_below HR0.out HB.out), Kd.C_alloc, Kd.C_drewN, Kd.C_drew]); (case side3 => exact HC0.out); (case side4 => apply_rules [(Kd.C_below HR1.out HB.out), Kd.C_alloc, Kd.C_drewN, Kd.C_drew]); (case side5 => exact HC1.out); rintro e w19 ⟨rfl, hb⟩; refine ⟨_, rfl, ?_⟩; replace BK1063 := Aside0.mk (blk_below (g := gb1063) (o := .cells #[.string (⟨#[]⟩ : ByteArray), .string (⟨#[]⟩ : ByteArray)] 38 (0, 0)) (by apply_rules [BK1063.out, blk_drewN, blk_drew, blk_alloc]) hb); replace HB := Aside0.mk (below_step (by apply_rules [HB.out, below_alloc, pw_below_drewN, below_drew1, below_set, GE1063.out]) hb); (try clear hb); have hcz20_0 : w19.cell? ⟨gb1063, 0, none⟩ = some (.string (⟨#[]⟩ : ByteArray)) := (blk_cell BK1063.out 0).trans rfl; have hcz20_1 : w19.cell? ⟨gb1063, 1, none⟩ = some (.string (⟨#[]⟩ : ByteArray)) := (blk_cell BK1063.out 1).trans rfl; have hfz20_0 := blk_frozen BK1063.out 0; have hfz20_1 := blk_frozen BK1063.out 1))
     refine bodyPost_ret (results_ct rfl _ _ gb1063 38 #[.string (⟨#[]⟩ : ByteArray), .string (⟨#[]⟩ : ByteArray)] (0, 0) _ rfl (by (with_reducible repeat (first | refine blk_drewN ?_ _ | refine blk_drew ?_ | refine blk_alloc ?_ _)); refine blk_put (cs := #[.string (⟨#[]⟩ : ByteArray), .string (⟨#[]⟩ : ByteArray)]) ?_ 1 _ rfl; (with_reducible repeat (first | refine blk_drewN ?_ _ | refine blk_drew ?_ | refine blk_alloc ?_ _)); refine blk_put (cs := #[.string (⟨#[]⟩ : ByteArray), .string (⟨#[]⟩ : ByteArray)]) ?_ 0 _ rfl; apply_rules [BK1063.out, blk_drewN, blk_drew, blk_alloc]) Tryz.underlying38 rfl (by kernel_rfl)) rfl ?_
     exact ⟨by first | rfl | simp [*], by apply_rules [HB.out, below_alloc, pw_below_drewN, below_drew1, below_set, GE1063.out]⟩
   ·replace c9 := Bool.eq_false_iff.mpr c9
    subst c9
    have H1 : (some ((⟨#[]⟩ : ByteArray), (⟨#[]⟩ : ByteArray), 4)) = some (r1, r2, r3) := by rw [if_neg (show ¬ (false = true) by decide)] at H; exact H
    clear H
    have H := H1
    clear H1
    simp only [Option.some.injEq, Prod.mk.injEq] at H
    obtain ⟨rfl, rfl, rfl⟩ := H
    go_enter Tryz.func79, Tryz.ntmps79
    go_wp2_with (first | ((with_reducible refine gate_dst (N := 4) rfl ?_); refine box_event ?hg (N := 4) ?hd (cs := #[.string (⟨#[]⟩ : ByteArray), .string (⟨#[]⟩ : ByteArray)]) (t := 38) ?hr ?_; (case hd => rfl); (case hg => rfl); (case hr => go_simp; try rfl); intro gb1063 hg w21 hbox hb; have n0_ := Aside0.mk (below_step (by apply_rules [HB.out, below_alloc, pw_below_drewN, below_drew1]) hb); have n1_ := Aside0.mk (hbox); have n2_ := Aside0.mk ((by rw [hg]; exact (below_size (by apply_rules [HB.out, below_alloc, pw_below_drewN, below_drew1])) : w.heap.size ≤ gb1063)); have n3_ := Aside0.mk ((by rw [hg]; exact (below_size (by apply_rules [HB.out, below_alloc, pw_below_drewN, below_drew1])) : w.heap.size ≤ gb1063)); clear HB; have HB := n0_; have BK1063 := n1_; have GW1063 := n2_; have GE1063 := n3_; clear n0_ n1_ n2_ n3_; clear hb hbox hg) | ((with_reducible refine gate_callee (f := 29) rfl ?_); refine goesK (some 13) Tryz.func29 [.slice A0 l0.length c0] rfl rfl ?_; (with_reducible refine (prime_Check.calls k _ _ l0 t1064 _ ?side1 ?side2 A3.out).mono ?_); (case side1 => apply_rules [(Kd.C_below HR0.out HB.out), Kd.C_alloc, Kd.C_drewN, Kd.C_drew]); (case side2 => exact HC0.out); rintro e w' ⟨rfl, ⟨nd, rfl⟩⟩; refine ⟨_, rfl, ?_⟩; (try (rw [drewN_self w21]; generalize hq_ : World.drewN w21 _ = w21; have n0_ : Aside0 (w21.heap[gb1063]? = some (.cells #[.string (⟨#[]⟩ : ByteArray), .string (⟨#[]⟩ : ByteArray)] 38 (0, 0))) := ⟨by rw [← hq_]; exact (by apply_rules [BK1063.out, blk_drewN, blk_drew, blk_alloc])⟩; have n1_ : Aside0 (Below w.heap.size w w21) := ⟨by rw [← hq_]; exact (by apply_rules [HB.out, below_alloc, pw_below_drewN, below_drew1, below_set, GE1063.out])⟩; clear BK1063 HB hq_; have BK1063 := n0_; have HB := n1_; clear n0_ n1_))) | ((with_reducible refine gate_callee (f := 128) rfl ?_); refine goesK (some 20) Tryz.func128 [.slice A0 l0.length c0, .slice A1 l1.length c1] rfl rfl ?_; (with_reducible refine (prime_fits.calls _ _ l0 _ _ l1 t1065 _ ?side1 ?side2 ?side3 ?side4 A5.out).mono ?_); (case side1 => apply_rules [(Kd.C_below HR0.out HB.out), Kd.C_alloc, Kd.C_drewN, Kd.C_drew]); (case side2 => exact HC0.out); (case side3 => apply_rules [(Kd.C_below HR1.out HB.out), Kd.C_alloc, Kd.C_drewN, Kd.C_drew]); (case side4 => exact HC1.out); rintro e w22 ⟨rfl, hb⟩; refine ⟨_, rfl, ?_⟩; replace BK1063 := Aside0.mk (blk_below (g := gb1063) (o := .cells #[.string (⟨#[]⟩ : ByteArray), .string (⟨#[]⟩ : ByteArray)] 38 (0, 0)) (by apply_rules [BK1063.out, blk_drewN, blk_drew, blk_alloc]) hb); replace HB := Aside0.mk (below_step (by apply_rules [HB.out, below_alloc, pw_below_drewN, below_drew1, below_set, GE1063.out]) hb); (try clear hb)) | ((with_reducible refine gate_callee (f := 140) rfl ?_); refine goesK (some 28) Tryz.func140 [.slice A0 l0.length c0, .slice A1 l1.length c1, .int .i64 1] rfl rfl ?_; (with_reducible refine (prime_power.calls k _ _ l0 _ _ l1 1 t1066 false _ ?side1 ?side2 ?side3 ?side4 ?side5 A7.out).mono ?_); (case side1 => refine TabW.below hT ?_; apply_rules [HB.out, below_alloc, pw_below_drewN, below_drew1, below_set, GE1063.out]); (case side2 => apply_rules [(Kd.C_below HR0.out HB.out), Kd.C_alloc, Kd.C_drewN, Kd.C_drew]); (case side3 => exact HC0.out); (case side4 => apply_rules [(Kd.C_below HR1.out HB.out), Kd.C_alloc, Kd.C_drewN, Kd.C_drew]); (case side5 => exact HC1.out); rintro e w23 ⟨rfl, hb⟩; refine ⟨_, rfl, ?_⟩; replace BK1063 := Aside0.mk (blk_below (g := gb1063) (o := .cells #[.string (⟨#[]⟩ : ByteArray), .string (⟨#[]⟩ : ByteArray)] 38 (0, 0)) (by apply_rules [BK1063.out, blk_drewN, blk_drew, blk_alloc]) hb); replace HB := Aside0.mk (below_step (by apply_rules [HB.out, below_alloc, pw_below_drewN, below_drew1, below_set, GE1063.out]) hb); (try clear hb)) | ((with_reducible refine gate_callee (f := 140) rfl ?_); refine goesK (some 34) Tryz.func140 [.slice A0 l0.length c0, .slice A1 l1.length c1, .int .i64 (-1)] rfl rfl ?_; (with_reducible refine (prime_power.calls k _ _ l0 _ _ l1 (-1) t1068 t1069 _ ?side1 ?side2 ?side3 ?side4 ?side5 A8.out).mono ?_); (case side1 => refine TabW.below hT ?_; apply_rules [HB.out, below_alloc, pw_below_drewN, below_drew1, below_set, GE1063.out]); (case side2 => apply_rules [(Kd.C_below HR0.out HB.out), Kd.C_alloc, Kd.C_drewN, Kd.C_drew]); (case side3 => exact HC0.out); (case side4 => apply_rules [(Kd.C_below HR1.out HB.out), Kd.C_alloc, Kd.C_drewN, Kd.C_drew]); (case side5 => exact HC1.out); rintro e w24 ⟨rfl, hb⟩; refine ⟨_, rfl, ?_⟩; replace BK1063 := Aside0.mk (blk_below (g := gb1063) (o := .cells #[.string (⟨#[]⟩ : ByteArray), .string (⟨#[]⟩ : ByteArray)] 38 (0, 0)) (by apply_rules [BK1063.out, blk_drewN, blk_drew, blk_alloc]) hb); replace HB := Aside0.mk (below_step (by apply_rules [HB.out, below_alloc, pw_below_drewN, below_drew1, below_set, GE1063.out]) hb); (try clear hb); have hcz25_0 : w24.cell? ⟨gb1063, 0, none⟩ = some (.string (⟨#[]⟩ : ByteArray)) := (blk_cell BK1063.out 0).trans rfl; have hcz25_1 : w24.cell? ⟨gb1063, 1, none⟩ = some (.string (⟨#[]⟩ : ByteArray)) := (blk_cell BK1063.out 1).trans rfl; have hfz25_0 := blk_frozen BK1063.out 0; have hfz25_1 := blk_frozen BK1063.out 1))
    refine bodyPost_ret (results_ct rfl _ _ gb1063 38 #[.string (⟨#[]⟩ : ByteArray), .string (⟨#[]⟩ : ByteArray)] (0, 0) _ rfl (by (with_reducible repeat (first | refine blk_drewN ?_ _ | refine blk_drew ?_ | refine blk_alloc ?_ _)); refine blk_put (cs := #[.string (⟨#[]⟩ : ByteArray), .string (⟨#[]⟩ : ByteArray)]) ?_ 1 _ rfl; (with_reducible repeat (first | refine blk_drewN ?_ _ | refine blk_drew ?_ | refine blk_alloc ?_ _)); refine blk_put (cs := #[.string (⟨#[]⟩ : ByteArray), .string (⟨#[]⟩ : ByteArray)]) ?_ 0 _ rfl; apply_rules [BK1063.out, blk_drewN, blk_drew, blk_alloc]) Tryz.underlying38 rfl (by kernel_rfl)) rfl ?_
    exact ⟨by first | rfl | simp [*], by apply_rules [HB.out, below_alloc, pw_below_drewN, below_drew1, below_set, GE1063.out]⟩
  ·rw [if_neg c6] at H
   have c6b0 : (t1065 == 0) = false := beq_eq_false_iff_ne.mpr c6
   have c6b1 : (t1065 != 0) = true := bne_iff_ne.mpr c6
   simp only [Option.some.injEq, Prod.mk.injEq] at H
   obtain ⟨rfl, rfl, rfl⟩ := H
   go_enter Tryz.func79, Tryz.ntmps79
   go_wp2_with (first | ((with_reducible refine gate_dst (N := 4) rfl ?_); refine box_event ?hg (N := 4) ?hd (cs := #[.string (⟨#[]⟩ : ByteArray), .string (⟨#[]⟩ : ByteArray)]) (t := 38) ?hr ?_; (case hd => rfl); (case hg => rfl); (case hr => go_simp; try rfl); intro gb1063 hg w26 hbox hb; have n0_ := Aside0.mk (below_step (by apply_rules [HB.out, below_alloc, pw_below_drewN, below_drew1]) hb); have n1_ := Aside0.mk (hbox); have n2_ := Aside0.mk ((by rw [hg]; exact (below_size (by apply_rules [HB.out, below_alloc, pw_below_drewN, below_drew1])) : w.heap.size ≤ gb1063)); have n3_ := Aside0.mk ((by rw [hg]; exact (below_size (by apply_rules [HB.out, below_alloc, pw_below_drewN, below_drew1])) : w.heap.size ≤ gb1063)); clear HB; have HB := n0_; have BK1063 := n1_; have GW1063 := n2_; have GE1063 := n3_; clear n0_ n1_ n2_ n3_; clear hb hbox hg) | ((with_reducible refine gate_callee (f := 29) rfl ?_); refine goesK (some 13) Tryz.func29 [.slice A0 l0.length c0] rfl rfl ?_; (with_reducible refine (prime_Check.calls k _ _ l0 t1064 _ ?side1 ?side2 A3.out).mono ?_); (case side1 => apply_rules [(Kd.C_below HR0.out HB.out), Kd.C_alloc, Kd.C_drewN, Kd.C_drew]); (case side2 => exact HC0.out); rintro e w' ⟨rfl, ⟨nd, rfl⟩⟩; refine ⟨_, rfl, ?_⟩; (try (rw [drewN_self w26]; generalize hq_ : World.drewN w26 _ = w26; have n0_ : Aside0 (w26.heap[gb1063]? = some (.cells #[.string (⟨#[]⟩ : ByteArray), .string (⟨#[]⟩ : ByteArray)] 38 (0, 0))) := ⟨by rw [← hq_]; exact (by apply_rules [BK1063.out, blk_drewN, blk_drew, blk_alloc])⟩; have n1_ : Aside0 (Below w.heap.size w w26) := ⟨by rw [← hq_]; exact (by apply_rules [HB.out, below_alloc, pw_below_drewN, below_drew1, below_set, GE1063.out])⟩; clear BK1063 HB hq_; have BK1063 := n0_; have HB := n1_; clear n0_ n1_))) | ((with_reducible refine gate_callee (f := 128) rfl ?_); refine goesK (some 20) Tryz.func128 [.slice A0 l0.length c0, .slice A1 l1.length c1] rfl rfl ?_; (with_reducible refine (prime_fits.calls _ _ l0 _ _ l1 t1065 _ ?side1 ?side2 ?side3 ?side4 A5.out).mono ?_); (case side1 => apply_rules [(Kd.C_below HR0.out HB.out), Kd.C_alloc, Kd.C_drewN, Kd.C_drew]); (case side2 => exact HC0.out); (case side3 => apply_rules [(Kd.C_below HR1.out HB.out), Kd.C_alloc, Kd.C_drewN, Kd.C_drew]); (case side4 => exact HC1.out); rintro e w27 ⟨rfl, hb⟩; refine ⟨_, rfl, ?_⟩; replace BK1063 := Aside0.mk (blk_below (g := gb1063) (o := .cells #[.string (⟨#[]⟩ : ByteArray), .string (⟨#[]⟩ : ByteArray)] 38 (0, 0)) (by apply_rules [BK1063.out, blk_drewN, blk_drew, blk_alloc]) hb); replace HB := Aside0.mk (below_step (by apply_rules [HB.out, below_alloc, pw_below_drewN, below_drew1, below_set, GE1063.out]) hb); (try clear hb); have hcz28_0 : w27.cell? ⟨gb1063, 0, none⟩ = some (.string (⟨#[]⟩ : ByteArray)) := (blk_cell BK1063.out 0).trans rfl; have hcz28_1 : w27.cell? ⟨gb1063, 1, none⟩ = some (.string (⟨#[]⟩ : ByteArray)) := (blk_cell BK1063.out 1).trans rfl; have hfz28_0 := blk_frozen BK1063.out 0; have hfz28_1 := blk_frozen BK1063.out 1))
   refine bodyPost_ret (results_ct rfl _ _ gb1063 38 #[.string (⟨#[]⟩ : ByteArray), .string (⟨#[]⟩ : ByteArray)] (0, 0) _ rfl (by (with_reducible repeat (first | refine blk_drewN ?_ _ | refine blk_drew ?_ | refine blk_alloc ?_ _)); refine blk_put (cs := #[.string (⟨#[]⟩ : ByteArray), .string (⟨#[]⟩ : ByteArray)]) ?_ 1 _ rfl; (with_reducible repeat (first | refine blk_drewN ?_ _ | refine blk_drew ?_ | refine blk_alloc ?_ _)); refine blk_put (cs := #[.string (⟨#[]⟩ : ByteArray), .string (⟨#[]⟩ : ByteArray)]) ?_ 0 _ rfl; apply_rules [BK1063.out, blk_drewN, blk_drew, blk_alloc]) Tryz.underlying38 rfl (by kernel_rfl)) rfl ?_
   exact ⟨by first | rfl | simp [*], by apply_rules [HB.out, below_alloc, pw_below_drewN, below_drew1, below_set, GE1063.out]⟩
 ·rw [if_neg c4] at H
  have c4b0 : (t1064 == 0) = false := beq_eq_false_iff_ne.mpr c4
  have c4b1 : (t1064 != 0) = true := bne_iff_ne.mpr c4
  simp only [Option.some.injEq, Prod.mk.injEq] at H
  obtain ⟨rfl, rfl, rfl⟩ := H
  go_enter Tryz.func79, Tryz.ntmps79
  go_wp2_with (first | ((with_reducible refine gate_dst (N := 4) rfl ?_); refine box_event ?hg (N := 4) ?hd (cs := #[.string (⟨#[]⟩ : ByteArray), .string (⟨#[]⟩ : ByteArray)]) (t := 38) ?hr ?_; (case hd => rfl); (case hg => rfl); (case hr => go_simp; try rfl); intro gb1063 hg w29 hbox hb; have n0_ := Aside0.mk (below_step (by apply_rules [HB.out, below_alloc, pw_below_drewN, below_drew1]) hb); have n1_ := Aside0.mk (hbox); have n2_ := Aside0.mk ((by rw [hg]; exact (below_size (by apply_rules [HB.out, below_alloc, pw_below_drewN, below_drew1])) : w.heap.size ≤ gb1063)); have n3_ := Aside0.mk ((by rw [hg]; exact (below_size (by apply_rules [HB.out, below_alloc, pw_below_drewN, below_drew1])) : w.heap.size ≤ gb1063)); clear HB; have HB := n0_; have BK1063 := n1_; have GW1063 := n2_; have GE1063 := n3_; clear n0_ n1_ n2_ n3_; clear hb hbox hg) | ((with_reducible refine gate_callee (f := 29) rfl ?_); refine goesK (some 13) Tryz.func29 [.slice A0 l0.length c0] rfl rfl ?_; (with_reducible refine (prime_Check.calls k _ _ l0 t1064 _ ?side1 ?side2 A3.out).mono ?_); (case side1 => apply_rules [(Kd.C_below HR0.out HB.out), Kd.C_alloc, Kd.C_drewN, Kd.C_drew]); (case side2 => exact HC0.out); rintro e w' ⟨rfl, ⟨nd, rfl⟩⟩; refine ⟨_, rfl, ?_⟩; (try (rw [drewN_self w29]; generalize hq_ : World.drewN w29 _ = w29; have n0_ : Aside0 (w29.heap[gb1063]? = some (.cells #[.string (⟨#[]⟩ : ByteArray), .string (⟨#[]⟩ : ByteArray)] 38 (0, 0))) := ⟨by rw [← hq_]; exact (by apply_rules [BK1063.out, blk_drewN, blk_drew, blk_alloc])⟩; have n1_ : Aside0 (Below w.heap.size w w29) := ⟨by rw [← hq_]; exact (by apply_rules [HB.out, below_alloc, pw_below_drewN, below_drew1, below_set, GE1063.out])⟩; clear BK1063 HB hq_; have BK1063 := n0_; have HB := n1_; clear n0_ n1_)); have hcz30_0 : w29.cell? ⟨gb1063, 0, none⟩ = some (.string (⟨#[]⟩ : ByteArray)) := (blk_cell BK1063.out 0).trans rfl; have hcz30_1 : w29.cell? ⟨gb1063, 1, none⟩ = some (.string (⟨#[]⟩ : ByteArray)) := (blk_cell BK1063.out 1).trans rfl; have hfz30_0 := blk_frozen BK1063.out 0; have hfz30_1 := blk_frozen BK1063.out 1))
  refine bodyPost_ret (results_ct rfl _ _ gb1063 38 #[.string (⟨#[]⟩ : ByteArray), .string (⟨#[]⟩ : ByteArray)] (0, 0) _ rfl (by (with_reducible repeat (first | refine blk_drewN ?_ _ | refine blk_drew ?_ | refine blk_alloc ?_ _)); refine blk_put (cs := #[.string (⟨#[]⟩ : ByteArray), .string (⟨#[]⟩ : ByteArray)]) ?_ 1 _ rfl; (with_reducible repeat (first | refine blk_drewN ?_ _ | refine blk_drew ?_ | refine blk_alloc ?_ _)); refine blk_put (cs := #[.string (⟨#[]⟩ : ByteArray), .string (⟨#[]⟩ : ByteArray)]) ?_ 0 _ rfl; apply_rules [BK1063.out, blk_drewN, blk_drew, blk_alloc]) Tryz.underlying38 rfl (by kernel_rfl)) rfl ?_
  exact ⟨by first | rfl | simp [*], by apply_rules [HB.out, below_alloc, pw_below_drewN, below_drew1, below_set, GE1063.out]⟩
theorem eqA38 (d : Nat) (w : World) (x0 y0 : ByteArray) (x1 y1 : ByteArray) :
  (Op.equalIn (d + 2) 38 (.agg #[.string x0, .string x1]) (.agg #[.string y0, .string y1])).run Tryz.prog w = .ok (x0.toList == y0.toList && (x1.toList == y1.toList)) w := by
 refine eqA_of Tryz.underlying38 (by kernel_rfl) ?_
 refine eqf_cons (by rfl) (by go_simp; rfl) (by go_simp; rfl) (by go_simp) ?_
 exact eqf_last (by rfl) (by go_simp; rfl) (by go_simp; rfl) (by go_simp)
def api_Primes_int_63.l0 : Nat → List Int → List Int → Int → Int → Option (Bool)
 | 0, _, _, _, _ => none
 | k + 1, x0, x1, x12, x13 => if x13 < x12 then (if 0 ≤ x13 then (if x13 < (x0.length : Int) then (if x13 < (x1.length : Int) then (if (rd x0 x13) = (rd x1 x13) then (api_Primes_int_63.l0 k x0 x1 x12 (wrap64 (x13 + 1))) else (some false)) else (none)) else (none)) else (none)) else (some true)
def api_Primes_int_63.f (k : Nat) (l0 : List Int) (l1 : List Int) : Option (Bool) := if (l0.length : Int) = (l1.length : Int) then (api_Primes_int_63.l0 k l0 l1 (l0.length : Int) 0) else (some false)
set_option maxHeartbeats 8000000 in
set_option maxRecDepth 100000 in
theorem api_Primes_int_63.calls (k : Nat) (A0 : Option Addr) (c0 : Nat) (l0 : List Int) (A1 : Option Addr) (c1 : Nat) (l1 : List Int) (r : Bool) (w : World) (hr0 : Kd.C (Kd.int .i64) w A0 l0.length l0) (hc0 : l0.length ≤ c0) (hr1 : Kd.C (Kd.int .i64) w A1 l1.length l1) (hc1 : l1.length ≤ c1) (h : api_Primes_int_63.f k l0 l1 = some r) :
  Calls Tryz.prog 63 #[.slice A0 l0.length c0, .slice A1 l1.length c1] w fun e w' => e = .returned (.bool r) ∧ Drawn0 w w' := by
 have HR0 := Aside0.mk hr0
 have HC0 := Aside0.mk hc0
 clear hr0 hc0
 have HR1 := Aside0.mk hr1
 have HC1 := Aside0.mk hc1
 clear hr1 hc1
 have H : (if (l0.length : Int) = (l1.length : Int) then (api_Primes_int_63.l0 k l0 l1 (l0.length : Int) 0) else (some false)) = some r := h
 clear h
 by_cases c3 : (l0.length : Int) = (l1.length : Int)
 ·rw [if_pos c3] at H
  have c3b0 : ((l0.length : Int) == (l1.length : Int)) = true := beq_iff_eq.mpr c3
  have c3b1 : ((l0.length : Int) != (l1.length : Int)) = false := bne_eq_false_iff_eq.mpr c3
  have c3b2 : (l0.length == l1.length) = true := by first | simpa using c3 | (simp at c3 ⊢; omega)
  clear c3
  have H' := Aside0.mk H
  clear H
  go_enter Tryz.func63, Tryz.ntmps63
  go_wp2
  go_loopg [13] k (fun kq v13 w' => ∃ (x13_1 : Int), v13 = .int .i64 x13_1 ∧ Aside0 (api_Primes_int_63.l0 kq l0 l1 (l0.length : Int) x13_1 = some r) ∧ Aside0 (kq ≤ k) ∧ Drawn0 w w')
  case atStart => exact ⟨(0), (by first | rfl | (simp; done) | (simp [*]; done)), H', ⟨Nat.le_refl _⟩, by repeat (first | exact Drawn0.refl _ | apply Drawn0.step)⟩
  case round =>
   clear H'
   obtain ⟨x13_1, rfl, HA, HK1, ⟨m1, rfl⟩⟩ := hrel
   cases gk with
   | zero => exact absurd HA.out (by simp [api_Primes_int_63.l0])
   | succ k1 =>
    have H := HA.out
    clear HA
    simp only [api_Primes_int_63.l0] at H
    by_cases c4 : x13_1 < (l0.length : Int)
    ·rw [if_pos c4] at H
     have c4b0 : decide (x13_1 < (l0.length : Int)) = true := decide_eq_true c4
     clear c4
     by_cases c5 : 0 ≤ x13_1
     case neg => rw [if_neg c5] at H; exact absurd H (by simp)
     rw [if_pos c5] at H
     have c5b0 : decide (0 ≤ x13_1) = true := decide_eq_true c5
     clear c5
     by_cases c6 : x13_1 < (l0.length : Int)
     case neg => rw [if_neg c6] at H; exact absurd H (by simp)
     rw [if_pos c6] at H
     have c6b0 : decide (x13_1 < (l0.length : Int)) = true := decide_eq_true c6
     clear c6
     by_cases c7 : x13_1 < (l1.length : Int)
     case neg => rw [if_neg c7] at H; exact absurd H (by simp)
     rw [if_pos c7] at H
     have c7b0 : decide (x13_1 < (l1.length : Int)) = true := decide_eq_true c7
     clear c7
     by_cases c8 : (rd l0 x13_1) = (rd l1 x13_1)
     ·rw [if_pos c8] at H
      have c8b0 : ((rd l0 x13_1) == (rd l1 x13_1)) = true := beq_iff_eq.mpr c8
      have c8b1 : ((rd l0 x13_1) != (rd l1 x13_1)) = false := bne_eq_false_iff_eq.mpr c8
      clear c8
      have H' := Aside0.mk H
      clear H
      have p1028 : 0 ≤ (x13_1 : Int) := of_decide_eq_true (by assumption)
      have q1028 : x13_1 < (l0.length : Int) := of_decide_eq_true (by assumption)
      obtain ⟨ad1028, e1028, hx1028_0⟩ := Kd.at_int HR0.out x13_1 p1028 q1028
      cases e1028
      replace p1028 := eq_true p1028
      replace q1028 := eq_true q1028
      have p1029 : 0 ≤ (x13_1 : Int) := of_decide_eq_true (by assumption)
      have q1029 : x13_1 < (l1.length : Int) := of_decide_eq_true (by assumption)
      obtain ⟨ad1029, e1029, hx1029_0⟩ := Kd.at_int HR1.out x13_1 p1029 q1029
      cases e1029
      replace p1029 := eq_true p1029
      replace q1029 := eq_true q1029
      go_wp2
      repeat (go_quiet (fail); try go_wp2)
      go_roundg k1
      case measure => have := HK1.out; omega
      case rel => exact ⟨(wrap64 (x13_1 + 1)), (by first | rfl | (simp; done) | (simp [*]; done)), H', ⟨by have := HK1.out; omega⟩, by repeat (first | exact Drawn0.refl _ | apply Drawn0.step)⟩
     ·rw [if_neg c8] at H
      have c8b0 : ((rd l0 x13_1) == (rd l1 x13_1)) = false := beq_eq_false_iff_ne.mpr c8
      have c8b1 : ((rd l0 x13_1) != (rd l1 x13_1)) = true := bne_iff_ne.mpr c8
      obtain rfl := Option.some.inj H
      have p1028 : 0 ≤ (x13_1 : Int) := of_decide_eq_true (by assumption)
      have q1028 : x13_1 < (l0.length : Int) := of_decide_eq_true (by assumption)
      obtain ⟨ad1028, e1028, hx1028_0⟩ := Kd.at_int HR0.out x13_1 p1028 q1028
      cases e1028
      replace p1028 := eq_true p1028
      replace q1028 := eq_true q1028
      have p1029 : 0 ≤ (x13_1 : Int) := of_decide_eq_true (by assumption)
      have q1029 : x13_1 < (l1.length : Int) := of_decide_eq_true (by assumption)
      obtain ⟨ad1029, e1029, hx1029_0⟩ := Kd.at_int HR1.out x13_1 p1029 q1029
      cases e1029
      replace p1029 := eq_true p1029
      replace q1029 := eq_true q1029
      go_wp2
      repeat (go_quiet (fail); try go_wp2)
      go_ret
      exact ⟨by first | rfl | (simp; done) | (simp [*]; done), by repeat (first | exact Drawn0.refl _ | apply Drawn0.step)⟩
    ·rw [if_neg c4] at H
     have c4b0 : decide (x13_1 < (l0.length : Int)) = false := decide_eq_false c4
     clear c4
     obtain rfl := Option.some.inj H
     go_wp2
     go_ret
     exact ⟨by first | rfl | (simp; done) | (simp [*]; done), by repeat (first | exact Drawn0.refl _ | apply Drawn0.step)⟩
 ·rw [if_neg c3] at H
  have c3b0 : ((l0.length : Int) == (l1.length : Int)) = false := beq_eq_false_iff_ne.mpr c3
  have c3b1 : ((l0.length : Int) != (l1.length : Int)) = true := bne_iff_ne.mpr c3
  have c3b2 : (l0.length == l1.length) = false := by first | simpa using c3 | (simp at c3 ⊢; omega)
  obtain rfl := Option.some.inj H
  go_enter Tryz.func63, Tryz.ntmps63
  go_wp2
  go_ret
  exact ⟨by first | rfl | (simp; done) | (simp [*]; done), by repeat (first | exact Drawn0.refl _ | apply Drawn0.step)⟩
def api_Row_int.l0 : Nat → List Int → List Int → Int → Int → Option (Bool)
 | 0, _, _, _, _ => none
 | k + 1, x0, x1, x12, x13 => if x13 < x12 then (if 0 ≤ x13 then (if x13 < (x0.length : Int) then (if x13 < (x1.length : Int) then (if (rd x0 x13) = (rd x1 x13) then (api_Row_int.l0 k x0 x1 x12 (wrap64 (x13 + 1))) else (some false)) else (none)) else (none)) else (none)) else (some true)
def api_Row_int.f (k : Nat) (l0 : List Int) (l1 : List Int) : Option (Bool) := if (l0.length : Int) = (l1.length : Int) then (api_Row_int.l0 k l0 l1 (l0.length : Int) 0) else (some false)
set_option maxHeartbeats 8000000 in
set_option maxRecDepth 100000 in
theorem api_Row_int.calls (k : Nat) (A0 : Option Addr) (c0 : Nat) (l0 : List Int) (A1 : Option Addr) (c1 : Nat) (l1 : List Int) (r : Bool) (w : World) (hr0 : Kd.C (Kd.int .i64) w A0 l0.length l0) (hc0 : l0.length ≤ c0) (hr1 : Kd.C (Kd.int .i64) w A1 l1.length l1) (hc1 : l1.length ≤ c1) (h : api_Row_int.f k l0 l1 = some r) :
  Calls Tryz.prog 71 #[.slice A0 l0.length c0, .slice A1 l1.length c1] w fun e w' => e = .returned (.bool r) ∧ Drawn0 w w' := by
 have HR0 := Aside0.mk hr0
 have HC0 := Aside0.mk hc0
 clear hr0 hc0
 have HR1 := Aside0.mk hr1
 have HC1 := Aside0.mk hc1
 clear hr1 hc1
 have H : (if (l0.length : Int) = (l1.length : Int) then (api_Row_int.l0 k l0 l1 (l0.length : Int) 0) else (some false)) = some r := h
 clear h
 by_cases c3 : (l0.length : Int) = (l1.length : Int)
 ·rw [if_pos c3] at H
  have c3b0 : ((l0.length : Int) == (l1.length : Int)) = true := beq_iff_eq.mpr c3
  have c3b1 : ((l0.length : Int) != (l1.length : Int)) = false := bne_eq_false_iff_eq.mpr c3
  have c3b2 : (l0.length == l1.length) = true := by first | simpa using c3 | (simp at c3 ⊢; omega)
  clear c3
  have H' := Aside0.mk H
  clear H
  go_enter Tryz.func71, Tryz.ntmps71
  go_wp2
  go_loopg [13] k (fun kq v13 w' => ∃ (x13_1 : Int), v13 = .int .i64 x13_1 ∧ Aside0 (api_Row_int.l0 kq l0 l1 (l0.length : Int) x13_1 = some r) ∧ Aside0 (kq ≤ k) ∧ Drawn0 w w')
  case atStart => exact ⟨(0), (by first | rfl | (simp; done) | (simp [*]; done)), H', ⟨Nat.le_refl _⟩, by repeat (first | exact Drawn0.refl _ | apply Drawn0.step)⟩
  case round =>
   clear H'
   obtain ⟨x13_1, rfl, HA, HK1, ⟨m1, rfl⟩⟩ := hrel
   cases gk with
   | zero => exact absurd HA.out (by simp [api_Row_int.l0])
   | succ k1 =>
    have H := HA.out
    clear HA
    simp only [api_Row_int.l0] at H
    by_cases c4 : x13_1 < (l0.length : Int)
    ·rw [if_pos c4] at H
     have c4b0 : decide (x13_1 < (l0.length : Int)) = true := decide_eq_true c4
     clear c4
     by_cases c5 : 0 ≤ x13_1
     case neg => rw [if_neg c5] at H; exact absurd H (by simp)
     rw [if_pos c5] at H
     have c5b0 : decide (0 ≤ x13_1) = true := decide_eq_true c5
     clear c5
     by_cases c6 : x13_1 < (l0.length : Int)
     case neg => rw [if_neg c6] at H; exact absurd H (by simp)
     rw [if_pos c6] at H
     have c6b0 : decide (x13_1 < (l0.length : Int)) = true := decide_eq_true c6
     clear c6
     by_cases c7 : x13_1 < (l1.length : Int)
     case neg => rw [if_neg c7] at H; exact absurd H (by simp)
     rw [if_pos c7] at H
     have c7b0 : decide (x13_1 < (l1.length : Int)) = true := decide_eq_true c7
     clear c7
     by_cases c8 : (rd l0 x13_1) = (rd l1 x13_1)
     ·rw [if_pos c8] at H
      have c8b0 : ((rd l0 x13_1) == (rd l1 x13_1)) = true := beq_iff_eq.mpr c8
      have c8b1 : ((rd l0 x13_1) != (rd l1 x13_1)) = false := bne_eq_false_iff_eq.mpr c8
      clear c8
      have H' := Aside0.mk H
      clear H
      have p1030 : 0 ≤ (x13_1 : Int) := of_decide_eq_true (by assumption)
      have q1030 : x13_1 < (l0.length : Int) := of_decide_eq_true (by assumption)
      obtain ⟨ad1030, e1030, hx1030_0⟩ := Kd.at_int HR0.out x13_1 p1030 q1030
      cases e1030
      replace p1030 := eq_true p1030
      replace q1030 := eq_true q1030
      have p1031 : 0 ≤ (x13_1 : Int) := of_decide_eq_true (by assumption)
      have q1031 : x13_1 < (l1.length : Int) := of_decide_eq_true (by assumption)
      obtain ⟨ad1031, e1031, hx1031_0⟩ := Kd.at_int HR1.out x13_1 p1031 q1031
      cases e1031
      replace p1031 := eq_true p1031
      replace q1031 := eq_true q1031
      go_wp2
      repeat (go_quiet (fail); try go_wp2)
      go_roundg k1
      case measure => have := HK1.out; omega
      case rel => exact ⟨(wrap64 (x13_1 + 1)), (by first | rfl | (simp; done) | (simp [*]; done)), H', ⟨by have := HK1.out; omega⟩, by repeat (first | exact Drawn0.refl _ | apply Drawn0.step)⟩
     ·rw [if_neg c8] at H
      have c8b0 : ((rd l0 x13_1) == (rd l1 x13_1)) = false := beq_eq_false_iff_ne.mpr c8
      have c8b1 : ((rd l0 x13_1) != (rd l1 x13_1)) = true := bne_iff_ne.mpr c8
      obtain rfl := Option.some.inj H
      have p1030 : 0 ≤ (x13_1 : Int) := of_decide_eq_true (by assumption)
      have q1030 : x13_1 < (l0.length : Int) := of_decide_eq_true (by assumption)
      obtain ⟨ad1030, e1030, hx1030_0⟩ := Kd.at_int HR0.out x13_1 p1030 q1030
      cases e1030
      replace p1030 := eq_true p1030
      replace q1030 := eq_true q1030
      have p1031 : 0 ≤ (x13_1 : Int) := of_decide_eq_true (by assumption)
      have q1031 : x13_1 < (l1.length : Int) := of_decide_eq_true (by assumption)
      obtain ⟨ad1031, e1031, hx1031_0⟩ := Kd.at_int HR1.out x13_1 p1031 q1031
      cases e1031
      replace p1031 := eq_true p1031
      replace q1031 := eq_true q1031
      go_wp2
      repeat (go_quiet (fail); try go_wp2)
      go_ret
      exact ⟨by first | rfl | (simp; done) | (simp [*]; done), by repeat (first | exact Drawn0.refl _ | apply Drawn0.step)⟩
    ·rw [if_neg c4] at H
     have c4b0 : decide (x13_1 < (l0.length : Int)) = false := decide_eq_false c4
     clear c4
     obtain rfl := Option.some.inj H
     go_wp2
     go_ret
     exact ⟨by first | rfl | (simp; done) | (simp [*]; done), by repeat (first | exact Drawn0.refl _ | apply Drawn0.step)⟩
 ·rw [if_neg c3] at H
  have c3b0 : ((l0.length : Int) == (l1.length : Int)) = false := beq_eq_false_iff_ne.mpr c3
  have c3b1 : ((l0.length : Int) != (l1.length : Int)) = true := bne_iff_ne.mpr c3
  have c3b2 : (l0.length == l1.length) = false := by first | simpa using c3 | (simp at c3 ⊢; omega)
  obtain rfl := Option.some.inj H
  go_enter Tryz.func71, Tryz.ntmps71
  go_wp2
  go_ret
  exact ⟨by first | rfl | (simp; done) | (simp [*]; done), by repeat (first | exact Drawn0.refl _ | apply Drawn0.step)⟩
end Go.Proofs.YtccebdpjdpjgnaaGreatDoor.P
end
