/-
words of the walks
-/
import Derived.Test.YtccebdpjdpjgnaaGreatDoorPV37
set_option linter.unusedVariables false
set_option linter.unusedSimpArgs false
namespace Go.Proofs.YtccebdpjdpjgnaaGreatDoor.P
open Go.RowKit Go.Proofs.YtccebdpjdpjgnaaGreatDoorW.PrintWords Go.Proofs.YtccebdpjdpjgnaaGreatDoorW.PrintLast Go.Proofs.YtccebdpjdpjgnaaGreatDoorW.PrintMore
attribute [local go_sem] max2_int min2_int max_two min_two max_three min_three max_four min_four
set_option linter.unusedVariables false
set_option linter.unusedSimpArgs false
def schismalaw11_value.l0 : Nat → List Int → List Int → Int → Int → Bool → List Int → Bool → List Int → Option (ByteArray × ByteArray)
 | 0, _, _, _, _, _, _, _, _ => none
 | k + 1, x0, x11, x12, x13, x1365000, x1365001, x1366000, x1366001 => if x13 < x12 then (if 0 ≤ x13 then (if x13 < (x11.length : Int) then (if (rd x11 x13) > 0 then (if x13 < (x0.length : Int) then ((schismalaw11_power.f k (rd x0 x13) (rd x11 x13)).bind fun bt1370 => ((schismaref03_MulW.f k x1365000 x1365001 bt1370.1 bt1370.2).bind fun bt1374 => (schismalaw11_value.l0 k x0 x11 x12 (wrap64 (x13 + 1)) bt1374.1 bt1374.2 x1366000 x1366001))) else (none)) else (if x13 < (x0.length : Int) then ((schismalaw11_power.f k (rd x0 x13) (wrap64 (-(rd x11 x13)))).bind fun bt1379 => ((schismaref03_MulW.f k x1366000 x1366001 bt1379.1 bt1379.2).bind fun bt1383 => (schismalaw11_value.l0 k x0 x11 x12 (wrap64 (x13 + 1)) x1365000 x1365001 bt1383.1 bt1383.2))) else (none))) else (none)) else (none)) else ((schismaref03_From.f k x1365000 x1365001).bind fun t1366 => ((schismaref03_From.f k x1366000 x1366001).bind fun t1367 => (some (t1366, t1367))))
def schismalaw11_value.f (k : Nat) (l0 : List Int) (l1 : List Int) : Option (ByteArray × ByteArray) := (schismaref03_Of.f k 1).bind fun bt1356 => ((schismaref03_Of.f k 1).bind fun bt1360 => (schismalaw11_value.l0 k l0 l1 (l1.length : Int) 0 bt1356.1 bt1356.2 bt1360.1 bt1360.2))
def schismalaw11_value.T6 : Bool × List (List Nat × List Nat) := (true, [([], []), ([], []), ([], []), ([1, 2], [1, 2]), ([3], [3]), ([], []), ([4, 5], [4, 5]), ([0, 6, 6], [0, 6]), ([7, 7, 0, 1, 2, 3, 4, 5, 6, 7], [7])])
def schismalaw11_value.B6 : List Nat := [0, 0, 0, 6, 14, 0, 62, 127, 255]
theorem schismalaw11_value.tab6 : rtab .any (opsOf Tryz.f80 6) = schismalaw11_value.T6 := by kernel_rfl
theorem schismalaw11_value.bits6 : waitsOk schismalaw11_value.T6.2 schismalaw11_value.B6 = true := by kernel_rfl
def schismalaw11_value.T7 : Bool × List (List Nat × List Nat) := (true, [([], []), ([], []), ([], []), ([1, 2], [1, 2]), ([3], [3]), ([], []), ([5], [5]), ([4, 6], [4, 6]), ([0, 7, 7], [0, 7]), ([8, 8, 0, 1, 2, 3, 4, 5, 6, 7, 8], [8])])
def schismalaw11_value.B7 : List Nat := [0, 0, 0, 6, 14, 0, 32, 126, 255, 511]
theorem schismalaw11_value.tab7 : rtab .any (opsOf Tryz.f80 7) = schismalaw11_value.T7 := by kernel_rfl
theorem schismalaw11_value.bits7 : waitsOk schismalaw11_value.T7.2 schismalaw11_value.B7 = true := by kernel_rfl
set_option maxHeartbeats 8000000 in
set_option maxRecDepth 100000 in
theorem schismalaw11_value.calls (k : Nat) (A0 : Option Addr) (c0 : Nat) (l0 : List Int) (A1 : Option Addr) (c1 : Nat) (l1 : List Int) (r1 : ByteArray) (r2 : ByteArray) (w : World) (hT : TabW w) (hr0 : Kd.C (Kd.int .i64) w A0 l0.length l0) (hc0 : l0.length ≤ c0) (hr1 : Kd.C (Kd.int .i64) w A1 l1.length l1) (hc1 : l1.length ≤ c1) (h : schismalaw11_value.f k l0 l1 = some (r1, r2)) :
  Calls Tryz.prog 80 #[.slice A0 l0.length c0, .slice A1 l1.length c1] w fun e w' => e = .returned (.agg #[.string r1, .string r2]) ∧ Below w.heap.size w w' := by
 have hu38 := Tryz.underlying38
 have hu101 := Tryz.underlying101
 have HR0 := Aside0.mk hr0
 have HC0 := Aside0.mk hc0
 clear hr0 hc0
 have HR1 := Aside0.mk hr1
 have HC1 := Aside0.mk hc1
 clear hr1 hc1
 have HB := Aside0.mk (Below.refl w.heap.size w)
 have H : ((schismaref03_Of.f k 1).bind fun bt1356 => ((schismaref03_Of.f k 1).bind fun bt1360 => (schismalaw11_value.l0 k l0 l1 (l1.length : Int) 0 bt1356.1 bt1356.2 bt1360.1 bt1360.2))) = some (r1, r2) := h
 clear h
 replace H := Option.bind_eq_some_iff.mp H
 obtain ⟨⟨t1356, t1357⟩, A30, H⟩ := H
 try dsimp only at H
 have A3 := Aside0.mk A30
 clear A30
 replace H := Option.bind_eq_some_iff.mp H
 obtain ⟨⟨t1360, t1361⟩, A40, H⟩ := H
 try dsimp only at H
 have A4 := Aside0.mk A40
 clear A40
 have H' := Aside0.mk H
 clear H
 go_enter Tryz.func80, Tryz.ntmps80
 go_wp2_with (first | ((with_reducible refine gate_dst (N := 4) rfl ?_); refine box_event ?hg (N := 4) ?hd (cs := #[.string (⟨#[]⟩ : ByteArray), .string (⟨#[]⟩ : ByteArray)]) (t := 38) ?hr ?_; (case hd => rfl); (case hg => rfl); (case hr => go_simp; try rfl); intro gb1355 hg w5 hbox hb; have n0_ := Aside0.mk (below_step (by apply_rules [HB.out, below_alloc, pw_below_drewN, below_drew1]) hb); have n1_ := Aside0.mk (hbox); have n2_ := Aside0.mk ((by rw [hg]; exact (below_size (by apply_rules [HB.out, below_alloc, pw_below_drewN, below_drew1])) : w.heap.size ≤ gb1355)); have n3_ := Aside0.mk ((by rw [hg]; exact (below_size (by apply_rules [HB.out, below_alloc, pw_below_drewN, below_drew1])) : w.heap.size ≤ gb1355)); clear HB; have HB := n0_; have BK1355 := n1_; have GW1355 := n2_; have GE1355 := n3_; clear n0_ n1_ n2_ n3_; clear hb hbox hg) | ((with_reducible refine gate_callee (f := 135) rfl ?_); refine goesK (some 9) Tryz.func135 [.int .i64 1] rfl rfl ?_; (with_reducible refine (schismaref03_Of.calls k 1 t1356 t1357 _ ?side1 A3.out).mono ?_); (case side1 => refine TabW.below hT ?_; apply_rules [HB.out, below_alloc, pw_below_drewN, below_drew1, below_set, GE1355.out]); rintro e w6 ⟨v1358, rfl, ho0, hb⟩; refine ⟨_, rfl, ?_⟩; have HO1359 := Aside0.mk (Kd.V_lower (Kd.V_mono (ok' := fun k_ => k_ ≠ gb1355) ho0 (fun k_ hk_ => (Kd.freshB (g := gb1355) (o := .cells #[.string (⟨#[]⟩ : ByteArray), .string (⟨#[]⟩ : ByteArray)] 38 (0, 0)) (by apply_rules [BK1355.out, blk_drewN, blk_drew, blk_alloc]) k_ hk_))) (below_size (by apply_rules [HB.out, below_alloc, pw_below_drewN, below_drew1, below_set, GE1355.out]))); replace BK1355 := Aside0.mk (blk_below (g := gb1355) (o := .cells #[.string (⟨#[]⟩ : ByteArray), .string (⟨#[]⟩ : ByteArray)] 38 (0, 0)) (by apply_rules [BK1355.out, blk_drewN, blk_drew, blk_alloc]) hb); replace HB := Aside0.mk (below_step (by apply_rules [HB.out, below_alloc, pw_below_drewN, below_drew1, below_set, GE1355.out]) hb); (try clear hb); (try clear ho0)) | ((with_reducible refine gate_callee (f := 135) rfl ?_); refine goesK (some 10) Tryz.func135 [.int .i64 1] rfl rfl ?_; (with_reducible refine (schismaref03_Of.calls k 1 t1360 t1361 _ ?side1 A4.out).mono ?_); (case side1 => refine TabW.below hT ?_; apply_rules [HB.out, below_alloc, pw_below_drewN, below_drew1, below_set, GE1355.out]); rintro e w7 ⟨v1362, rfl, ho0, hb⟩; refine ⟨_, rfl, ?_⟩; replace HO1359 := Aside0.mk (Kd.V_below (by apply_rules [HO1359.out, Kd.V_alloc, Kd.V_drewN, Kd.V_drew]) hb); have HO1363 := Aside0.mk (Kd.V_lower (Kd.V_mono (ok' := fun k_ => k_ ≠ gb1355) ho0 (fun k_ hk_ => (Kd.freshB (g := gb1355) (o := .cells #[.string (⟨#[]⟩ : ByteArray), .string (⟨#[]⟩ : ByteArray)] 38 (0, 0)) (by apply_rules [BK1355.out, blk_drewN, blk_drew, blk_alloc]) k_ hk_))) (below_size (by apply_rules [HB.out, below_alloc, pw_below_drewN, below_drew1, below_set, GE1355.out]))); replace BK1355 := Aside0.mk (blk_below (g := gb1355) (o := .cells #[.string (⟨#[]⟩ : ByteArray), .string (⟨#[]⟩ : ByteArray)] 38 (0, 0)) (by apply_rules [BK1355.out, blk_drewN, blk_drew, blk_alloc]) hb); replace HB := Aside0.mk (below_step (by apply_rules [HB.out, below_alloc, pw_below_drewN, below_drew1, below_set, GE1355.out]) hb); (try clear hb); (try clear ho0)) | ((with_reducible refine gate_dst (N := 5) rfl ?_); refine box_event ?hg (N := 5) ?hd (cs := #[.bool false, .slice none 0 0]) (t := 101) ?hr ?_; (case hd => rfl); (case hg => rfl); (case hr => go_simp; try rfl); intro gb1364 hg w8 hbox hb; have n0_ := Aside0.mk (Kd.V_below (Kd.V_elderB (by apply_rules [HO1359.out, Kd.V_alloc, Kd.V_drewN, Kd.V_drew]) gb1364 (Nat.le_of_eq hg.symm)) hb); have n1_ := Aside0.mk (Kd.V_below (Kd.V_elderB (by apply_rules [HO1363.out, Kd.V_alloc, Kd.V_drewN, Kd.V_drew]) gb1364 (Nat.le_of_eq hg.symm)) hb); have n2_ := Aside0.mk (blk_below (g := gb1355) (o := .cells #[.string (⟨#[]⟩ : ByteArray), .string (⟨#[]⟩ : ByteArray)] 38 (0, 0)) (by apply_rules [BK1355.out, blk_drewN, blk_drew, blk_alloc]) hb); have n3_ := Aside0.mk (below_step (by apply_rules [HB.out, below_alloc, pw_below_drewN, below_drew1, below_set, GE1355.out]) hb); have n4_ := Aside0.mk (hbox); have n5_ := Aside0.mk ((by rw [hg]; exact (below_size (by apply_rules [HB.out, below_alloc, pw_below_drewN, below_drew1, below_set, GE1355.out])) : w.heap.size ≤ gb1364)); have n6_ := Aside0.mk ((by rw [hg]; exact (below_size (by apply_rules [HB.out, below_alloc, pw_below_drewN, below_drew1, below_set, GE1355.out])) : w.heap.size ≤ gb1364)); have n7_ := Aside0.mk ((by rw [hg]; exact Nat.ne_of_lt (blk_lt (g := gb1355) (o := .cells #[.string (⟨#[]⟩ : ByteArray), .string (⟨#[]⟩ : ByteArray)] 38 (0, 0)) (by apply_rules [BK1355.out, blk_drewN, blk_drew, blk_alloc])) : gb1355 ≠ gb1364)); have n8_ := Aside0.mk ((by rw [hg]; exact Nat.ne_of_gt (blk_lt (g := gb1355) (o := .cells #[.string (⟨#[]⟩ : ByteArray), .string (⟨#[]⟩ : ByteArray)] 38 (0, 0)) (by apply_rules [BK1355.out, blk_drewN, blk_drew, blk_alloc])) : gb1364 ≠ gb1355)); clear HO1359; clear HO1363; clear BK1355; clear HB; have HO1359 := n0_; have HO1363 := n1_; have BK1355 := n2_; have HB := n3_; have BK1364 := n4_; have GW1364 := n5_; have GE1364 := n6_; have NB1355_1364 := n7_; have NB1364_1355 := n8_; clear n0_ n1_ n2_ n3_ n4_ n5_ n6_ n7_ n8_; clear hb hbox hg) | ((with_reducible refine gate_dst (N := 6) rfl ?_); refine box_event ?hg (N := 6) ?hd (cs := #[.bool false, .slice none 0 0]) (t := 101) ?hr ?_; (case hd => rfl); (case hg => rfl); (case hr => go_simp; try rfl); intro gb1365 hg w9 hbox hb; have n0_ := Aside0.mk (Kd.V_below (Kd.V_elderB (by apply_rules [HO1359.out, Kd.V_alloc, Kd.V_drewN, Kd.V_drew]) gb1365 (Nat.le_of_eq hg.symm)) hb); have n1_ := Aside0.mk (Kd.V_below (Kd.V_elderB (by apply_rules [HO1363.out, Kd.V_alloc, Kd.V_drewN, Kd.V_drew]) gb1365 (Nat.le_of_eq hg.symm)) hb); have n2_ := Aside0.mk (blk_below (g := gb1355) (o := .cells #[.string (⟨#[]⟩ : ByteArray), .string (⟨#[]⟩ : ByteArray)] 38 (0, 0)) (by apply_rules [BK1355.out, blk_drewN, blk_drew, blk_alloc]) hb); have n3_ := Aside0.mk (blk_below (g := gb1364) (o := .cells #[.bool false, .slice none 0 0] 101 (0, 0)) (by apply_rules [BK1364.out, blk_drewN, blk_drew, blk_alloc]) hb); have n4_ := Aside0.mk (below_step (by apply_rules [HB.out, below_alloc, pw_below_drewN, below_drew1, below_set, GE1355.out, GE1364.out]) hb); have n5_ := Aside0.mk (hbox); have n6_ := Aside0.mk ((by rw [hg]; exact (below_size (by apply_rules [HB.out, below_alloc, pw_below_drewN, below_drew1, below_set, GE1355.out, GE1364.out])) : w.heap.size ≤ gb1365)); have n7_ := Aside0.mk ((by rw [hg]; exact (below_size (by apply_rules [HB.out, below_alloc, pw_below_drewN, below_drew1, below_set, GE1355.out, GE1364.out])) : w.heap.size ≤ gb1365)); have n8_ := Aside0.mk ((by rw [hg]; exact Nat.ne_of_lt (blk_lt (g := gb1355) (o := .cells #[.string (⟨#[]⟩ : ByteArray), .string (⟨#[]⟩ : ByteArray)] 38 (0, 0)) (by apply_rules [BK1355.out, blk_drewN, blk_drew, blk_alloc])) : gb1355 ≠ gb1365)); have n9_ := Aside0.mk ((by rw [hg]; exact Nat.ne_of_gt (blk_lt (g := gb1355) (o := .cells #[.string (⟨#[]⟩ : ByteArray), .string (⟨#[]⟩ : ByteArray)] 38 (0, 0)) (by apply_rules [BK1355.out, blk_drewN, blk_drew, blk_alloc])) : gb1365 ≠ gb1355)); have n10_ := Aside0.mk ((by rw [hg]; exact Nat.ne_of_lt (blk_lt (g := gb1364) (o := .cells #[.bool false, .slice none 0 0] 101 (0, 0)) (by apply_rules [BK1364.out, blk_drewN, blk_drew, blk_alloc])) : gb1364 ≠ gb1365)); have n11_ := Aside0.mk ((by rw [hg]; exact Nat.ne_of_gt (blk_lt (g := gb1364) (o := .cells #[.bool false, .slice none 0 0] 101 (0, 0)) (by apply_rules [BK1364.out, blk_drewN, blk_drew, blk_alloc])) : gb1365 ≠ gb1364)); clear HO1359; clear HO1363; clear BK1355; clear BK1364; clear HB; have HO1359 := n0_; have HO1363 := n1_; have BK1355 := n2_; have BK1364 := n3_; have HB := n4_; have BK1365 := n5_; have GW1365 := n6_; have GE1365 := n7_; have NB1355_1365 := n8_; have NB1365_1355 := n9_; have NB1364_1365 := n10_; have NB1365_1364 := n11_; clear n0_ n1_ n2_ n3_ n4_ n5_ n6_ n7_ n8_ n9_ n10_ n11_; clear hb hbox hg; have hnb10 := NB1364_1355.out; have hnc10 := NB1355_1364.out; have hnb11 := NB1364_1365.out; have hnc11 := NB1365_1364.out; have hcz12_0 : w9.cell? ⟨gb1364, 0, none⟩ = some (.bool false) := (blk_cell BK1364.out 0).trans rfl; have hcz12_1 : w9.cell? ⟨gb1364, 1, none⟩ = some (.slice none 0 0) := (blk_cell BK1364.out 1).trans rfl; have hfz12_0 := blk_frozen BK1364.out 0; have hfz12_1 := blk_frozen BK1364.out 1; obtain ⟨Ao13, co13, eo13⟩ := Kd.V_slice HO1359.out; subst eo13; have hnb14 := NB1365_1355.out; have hnc14 := NB1355_1365.out; have hcz15_0 : w9.cell? ⟨gb1365, 0, none⟩ = some (.bool false) := (blk_cell BK1365.out 0).trans rfl; have hcz15_1 : w9.cell? ⟨gb1365, 1, none⟩ = some (.slice none 0 0) := (blk_cell BK1365.out 1).trans rfl; have hfz15_0 := blk_frozen BK1365.out 0; have hfz15_1 := blk_frozen BK1365.out 1; obtain ⟨Ao16, co16, eo16⟩ := Kd.V_slice HO1363.out; subst eo16))
 go_loopg [13] k (fun kq v13 w' => ∃ (x13_1 : Int) (x1365000_1 : Bool) (x1365001_1 : List Int) (x1366000_1 : Bool) (x1366001_1 : List Int) (u1365001 : Value) (u1366001 : Value), v13 = .int .i64 x13_1 ∧ Aside0 (schismalaw11_value.l0 kq l0 l1 (l1.length : Int) x13_1 x1365000_1 x1365001_1 x1366000_1 x1366001_1 = some (r1, r2)) ∧ Aside0 (kq ≤ k) ∧ Aside0 (Kd.V (Kd.int .i64) 3 w' w.heap.size (fun k_ => k_ ≠ gb1355 ∧ k_ ≠ gb1364 ∧ k_ ≠ gb1365) u1365001 x1365001_1) ∧ Aside0 (Kd.V (Kd.int .i64) 3 w' w.heap.size (fun k_ => k_ ≠ gb1355 ∧ k_ ≠ gb1364 ∧ k_ ≠ gb1365) u1366001 x1366001_1) ∧ Aside0 (w'.heap[gb1355]? = some (.cells #[.string (⟨#[]⟩ : ByteArray), .string (⟨#[]⟩ : ByteArray)] 38 (0, 0))) ∧ Aside0 (w'.heap[gb1364]? = some (.cells #[.bool x1365000_1, u1365001] 101 (0, 0))) ∧ Aside0 (w'.heap[gb1365]? = some (.cells #[.bool x1366000_1, u1366001] 101 (0, 0))) ∧ Aside0 (Below w.heap.size w w'))
 case atStart => exact ⟨(0), (t1356), (t1357), (t1360), (t1361), (.slice Ao13 t1357.length co13), (.slice Ao16 t1361.length co16), (by first | rfl | (simp; done) | (simp [*]; done)), H', ⟨Nat.le_refl _⟩, ⟨by (with_reducible repeat (first | apply Kd.V_alloc | apply Kd.V_drewN | apply Kd.V_drew)); exact Kd.V_mono (Kd.V_far (p := ⟨gb1365, 1, none⟩) (Kd.V_far (p := ⟨gb1365, 0, none⟩) (Kd.V_far (p := ⟨gb1364, 1, none⟩) (Kd.V_far (p := ⟨gb1364, 0, none⟩) (Kd.V_mono (Kd.V_mono HO1359.out (fun k_ hk => (⟨hk, hk.1.2⟩ : _ ∧ k_ ≠ gb1364))) (fun k_ hk => (⟨hk, hk.1.2⟩ : _ ∧ k_ ≠ gb1365))) (fun _ hk => hk.1.2) (.bool t1356)) (fun _ hk => hk.1.2) (.slice Ao13 t1357.length co13)) (fun _ hk => hk.2) (.bool t1360)) (fun _ hk => hk.2) (.slice Ao16 t1361.length co16)) (fun _ hk => ⟨hk.1.1.1.1, ⟨hk.1.1.1.2, hk.1.1.2⟩⟩)⟩, ⟨by (with_reducible repeat (first | apply Kd.V_alloc | apply Kd.V_drewN | apply Kd.V_drew)); exact Kd.V_mono (Kd.V_far (p := ⟨gb1365, 1, none⟩) (Kd.V_far (p := ⟨gb1365, 0, none⟩) (Kd.V_far (p := ⟨gb1364, 1, none⟩) (Kd.V_far (p := ⟨gb1364, 0, none⟩) (Kd.V_mono (Kd.V_mono HO1363.out (fun k_ hk => (⟨hk, hk.1.2⟩ : _ ∧ k_ ≠ gb1364))) (fun k_ hk => (⟨hk, hk.1.2⟩ : _ ∧ k_ ≠ gb1365))) (fun _ hk => hk.1.2) (.bool t1356)) (fun _ hk => hk.1.2) (.slice Ao13 t1357.length co13)) (fun _ hk => hk.2) (.bool t1360)) (fun _ hk => hk.2) (.slice Ao16 t1361.length co16)) (fun _ hk => ⟨hk.1.1.1.1, ⟨hk.1.1.1.2, hk.1.1.2⟩⟩)⟩, ⟨by (with_reducible repeat (first | refine blk_drewN ?_ _ | refine blk_drew ?_ | refine blk_alloc ?_ _)); refine blk_far ?_ NB1355_1365.out _; (with_reducible repeat (first | refine blk_drewN ?_ _ | refine blk_drew ?_ | refine blk_alloc ?_ _)); refine blk_far ?_ NB1355_1365.out _; (with_reducible repeat (first | refine blk_drewN ?_ _ | refine blk_drew ?_ | refine blk_alloc ?_ _)); refine blk_far ?_ NB1355_1364.out _; (with_reducible repeat (first | refine blk_drewN ?_ _ | refine blk_drew ?_ | refine blk_alloc ?_ _)); refine blk_far ?_ NB1355_1364.out _; apply_rules [BK1355.out, blk_drewN, blk_drew, blk_alloc]⟩, ⟨by (with_reducible repeat (first | refine blk_drewN ?_ _ | refine blk_drew ?_ | refine blk_alloc ?_ _)); refine blk_far ?_ NB1364_1365.out _; (with_reducible repeat (first | refine blk_drewN ?_ _ | refine blk_drew ?_ | refine blk_alloc ?_ _)); refine blk_far ?_ NB1364_1365.out _; (with_reducible repeat (first | refine blk_drewN ?_ _ | refine blk_drew ?_ | refine blk_alloc ?_ _)); refine blk_put (cs := #[.bool t1356, .slice none 0 0]) ?_ 1 _ rfl; (with_reducible repeat (first | refine blk_drewN ?_ _ | refine blk_drew ?_ | refine blk_alloc ?_ _)); refine blk_put (cs := #[.bool false, .slice none 0 0]) ?_ 0 _ rfl; apply_rules [BK1364.out, blk_drewN, blk_drew, blk_alloc]⟩, ⟨by (with_reducible repeat (first | refine blk_drewN ?_ _ | refine blk_drew ?_ | refine blk_alloc ?_ _)); refine blk_put (cs := #[.bool t1360, .slice none 0 0]) ?_ 1 _ rfl; (with_reducible repeat (first | refine blk_drewN ?_ _ | refine blk_drew ?_ | refine blk_alloc ?_ _)); refine blk_put (cs := #[.bool false, .slice none 0 0]) ?_ 0 _ rfl; (with_reducible repeat (first | refine blk_drewN ?_ _ | refine blk_drew ?_ | refine blk_alloc ?_ _)); refine blk_far ?_ NB1365_1364.out _; (with_reducible repeat (first | refine blk_drewN ?_ _ | refine blk_drew ?_ | refine blk_alloc ?_ _)); refine blk_far ?_ NB1365_1364.out _; apply_rules [BK1365.out, blk_drewN, blk_drew, blk_alloc]⟩, ⟨by apply_rules [HB.out, below_alloc, pw_below_drewN, below_drew1, below_set, GE1355.out, GE1364.out, GE1365.out]⟩⟩
 case round =>
  clear H'
  obtain ⟨x13_1, x1365000_1, x1365001_1, x1366000_1, x1366001_1, u1365001, u1366001, rfl, HA, HK1, HO_1365001, HO_1366001, BK1355, BK1364, BK1365, HB⟩ := hrel
  cases gk with
  | zero => exact absurd HA.out (by simp [schismalaw11_value.l0])
  | succ k1 =>
   have H := HA.out
   clear HA
   simp only [schismalaw11_value.l0] at H
   by_cases c17 : x13_1 < (l1.length : Int)
   ·rw [if_pos c17] at H
    have c17b0 : decide (x13_1 < (l1.length : Int)) = true := decide_eq_true c17
    clear c17
    by_cases c18 : 0 ≤ x13_1
    case neg => rw [if_neg c18] at H; exact absurd H (by simp)
    rw [if_pos c18] at H
    have c18b0 : decide (0 ≤ x13_1) = true := decide_eq_true c18
    clear c18
    by_cases c19 : x13_1 < (l1.length : Int)
    case neg => rw [if_neg c19] at H; exact absurd H (by simp)
    rw [if_pos c19] at H
    have c19b0 : decide (x13_1 < (l1.length : Int)) = true := decide_eq_true c19
    clear c19
    by_cases c20 : (rd l1 x13_1) > 0
    ·rw [if_pos c20] at H
     have c20b0 : decide (0 < (rd l1 x13_1)) = true := decide_eq_true c20
     clear c20
     by_cases c21 : x13_1 < (l0.length : Int)
     case neg => rw [if_neg c21] at H; exact absurd H (by simp)
     rw [if_pos c21] at H
     have c21b0 : decide (x13_1 < (l0.length : Int)) = true := decide_eq_true c21
     clear c21
     replace H := Option.bind_eq_some_iff.mp H
     obtain ⟨⟨t1370, t1371⟩, A220, H⟩ := H
     try dsimp only at H
     have A22 := Aside0.mk A220
     clear A220
     replace H := Option.bind_eq_some_iff.mp H
     obtain ⟨⟨t1374, t1375⟩, A230, H⟩ := H
     try dsimp only at H
     have A23 := Aside0.mk A230
     clear A230
     have H' := Aside0.mk H
     clear H
     have p1368 : 0 ≤ (x13_1 : Int) := of_decide_eq_true (by assumption)
     have q1368 : x13_1 < (l1.length : Int) := of_decide_eq_true (by assumption)
     obtain ⟨ad1368, e1368, hx1368_0⟩ := Kd.at_int HR1.out x13_1 p1368 q1368
     cases e1368
     replace hx1368_0 := (HB.out.cell (World.block_lt_of_cell? w _ hx1368_0)).trans hx1368_0
     replace p1368 := eq_true p1368
     replace q1368 := eq_true q1368
     try go_wp2
     have n0_ := Aside0.mk (Kd.V_drew HO_1365001.out)
     have n1_ := Aside0.mk (Kd.V_drew HO_1366001.out)
     have n2_ := Aside0.mk (blk_drew BK1355.out)
     have n3_ := Aside0.mk (blk_drew BK1364.out)
     have n4_ := Aside0.mk (blk_drew BK1365.out)
     have n5_ := Aside0.mk (below_drew1 HB.out)
     clear HO_1365001
     clear HO_1366001
     clear BK1355
     clear BK1364
     clear BK1365
     clear HB
     have HO_1365001 := n0_
     have HO_1366001 := n1_
     have BK1355 := n2_
     have BK1364 := n3_
     have BK1365 := n4_
     have HB := n5_
     clear n0_ n1_ n2_ n3_ n4_ n5_
     have p1369 : 0 ≤ (x13_1 : Int) := of_decide_eq_true (by assumption)
     have q1369 : x13_1 < (l0.length : Int) := of_decide_eq_true (by assumption)
     obtain ⟨ad1369, e1369, hx1369_0⟩ := Kd.at_int HR0.out x13_1 p1369 q1369
     have hw1369_0 := hx1369_0
     cases e1369
     replace hx1369_0 := (HB.out.cell (World.block_lt_of_cell? w _ hx1369_0)).trans hx1369_0
     replace p1369 := eq_true p1369
     replace q1369 := eq_true q1369
     refine start_ (n := 9) (S := fun w' => w'.cell? ⟨gb1364, 0, none⟩ = some (.bool x1365000_1) ∧ w'.cell? ⟨gb1364, 1, none⟩ = some (u1365001) ∧ w'.cell? (ad1369.add (x13_1).toNat) = some (.int .i64 (rd l0 x13_1))) (ds := [8]) #[false, false, false, false, false, false, false, false, false] (by kernel_rfl) rfl rfl ⟨(blk_cell BK1364.out 0).trans rfl, (blk_cell BK1364.out 1).trans rfl, ((HB.out.cell (World.block_lt_of_cell? w _ hw1369_0)).trans hw1369_0)⟩ (fun hHeld => ?_); refine with_tabW schismalaw11_value.tab6 schismalaw11_value.bits6 (fun HT_ HW_ => ?_)
     generalize wr.drew = w24 at HO_1365001 HO_1366001 BK1355 BK1364 BK1365 HB hx1369_0 hHeld ⊢
     refine pure_ (i := 1) (N := some 21) (v := ?_) (a' := ?_) #[false, true, false, false, false, false, false, false, false] rfl rfl (any_of HT_.out (by kernel_rfl)) (fun _ _ _ h => h) (Or.inl ⟨by rfl, ?_⟩) ?_ ?_
     rotate_left
     ·intro w'
      go_simp
      with_reducible rfl
     rotate_left
     ·simp only [Act.put, List.setIfInBounds_toArray, List.set_cons_zero, List.set_cons_succ, i64_w, i32_w]
      rfl
     refine pure_ (i := 2) (N := some 22) (v := ?_) (a' := ?_) #[false, true, true, false, false, false, false, false, false] rfl rfl (any_of HT_.out (by kernel_rfl)) (fun _ _ _ h => h) (Or.inl ⟨by rfl, ?_⟩) ?_ ?_
     rotate_left
     ·intro w'
      go_simp
      with_reducible rfl
     rotate_left
     ·simp only [Act.put, List.setIfInBounds_toArray, List.set_cons_zero, List.set_cons_succ, i64_w, i32_w]
      rfl
     refine pure_ (i := 3) (N := some 23) (v := ?_) (a' := ?_) #[false, true, true, true, false, false, false, false, false] rfl rfl (any_of HT_.out (by kernel_rfl)) (fun _ _ _ h => h) (Or.inl ⟨by rfl, ?_⟩) ?_ ?_
     rotate_left
     ·intro w'
      go_simp
      with_reducible rfl
     rotate_left
     ·simp only [Act.put, List.setIfInBounds_toArray, List.set_cons_zero, List.set_cons_succ, i64_w, i32_w]
      rfl
     refine pure_ (i := 5) (N := some 25) (v := ?_) (a' := ?_) #[false, true, true, true, false, true, false, false, false] rfl rfl (any_of HT_.out (by kernel_rfl)) (fun _ _ _ h => h) (Or.inl ⟨by rfl, ?_⟩) ?_ ?_
     rotate_left
     ·intro w'
      go_simp
      with_reducible rfl
     rotate_left
     ·simp only [Act.put, List.setIfInBounds_toArray, List.set_cons_zero, List.set_cons_succ, i64_w, i32_w]
      rfl
     refine take_ (i := 0) (N := some 20) (v := ?_) (a' := ?_) #[true, true, true, true, false, true, false, false, false] rfl rfl (take_ofW HT_.out HW_.out (by kernel_rfl)) (fun _ _ _ h => h) (Or.inl ⟨by rfl, ?_⟩) hHeld ?_ ?_
     rotate_left
     ·rintro w' ⟨s0, s1, s2⟩
      go_simp
      with_reducible rfl
     rotate_left
     ·simp only [Act.put, List.setIfInBounds_toArray, List.set_cons_zero, List.set_cons_succ, i64_w, i32_w]
      rfl
     refine take_ (i := 4) (N := some 24) (v := ?_) (a' := ?_) #[true, true, true, true, true, true, false, false, false] rfl rfl (take_ofW HT_.out HW_.out (by kernel_rfl)) (fun _ _ _ h => h) (Or.inl ⟨by rfl, ?_⟩) hHeld ?_ ?_
     rotate_left
     ·rintro w' ⟨s0, s1, s2⟩
      go_simp
      with_reducible rfl
     rotate_left
     ·simp only [Act.put, List.setIfInBounds_toArray, List.set_cons_zero, List.set_cons_succ, i64_w, i32_w]
      rfl
     refine one_ (i := 6) (N := some 26) #[true, true, true, true, true, true, true, false, false] rfl rfl (one_of HT_.out (by kernel_rfl)) (by decide) (fun K hK => ?_)
     refine goes_ Tryz.func77 (by kernel_rfl) rfl #[.int .i64 (rd l0 x13_1), .int .i64 (rd l1 x13_1)] (by rfl) rfl rfl (by (try simp only [List.map_toArray, List.map_cons, List.map_nil]); first | done | rfl | (simp only [List.length_drop, List.length_take]; rfl)) ?_
     with_reducible refine (schismalaw11_power.calls k1 (rd l0 x13_1) (rd l1 x13_1) t1370 t1371 _ ?side1 A22.out).mono ?_
     (case side1 => refine TabW.below hT ?_; apply_rules [HB.out, below_alloc, pw_below_drewN, below_drew1, below_set, GE1355.out, GE1364.out, GE1365.out])
     rintro e w25 ⟨v1372, rfl, ho0, hb⟩
     refine ⟨_, rfl, ?_⟩
     have n0_ := Aside0.mk (Kd.V_below (by apply_rules [HO_1365001.out, Kd.V_alloc, Kd.V_drewN, Kd.V_drew]) hb)
     have n1_ := Aside0.mk (Kd.V_below (by apply_rules [HO_1366001.out, Kd.V_alloc, Kd.V_drewN, Kd.V_drew]) hb)
     have n2_ := Aside0.mk (Kd.V_lower (Kd.V_mono (ok' := fun k_ => k_ ≠ gb1355 ∧ k_ ≠ gb1364 ∧ k_ ≠ gb1365) ho0 (fun k_ hk_ => ⟨(Kd.freshB (g := gb1355) (o := .cells #[.string (⟨#[]⟩ : ByteArray), .string (⟨#[]⟩ : ByteArray)] 38 (0, 0)) (by apply_rules [BK1355.out, blk_drewN, blk_drew, blk_alloc]) k_ hk_), (Kd.freshB (g := gb1364) (o := .cells #[.bool x1365000_1, u1365001] 101 (0, 0)) (by apply_rules [BK1364.out, blk_drewN, blk_drew, blk_alloc]) k_ hk_), (Kd.freshB (g := gb1365) (o := .cells #[.bool x1366000_1, u1366001] 101 (0, 0)) (by apply_rules [BK1365.out, blk_drewN, blk_drew, blk_alloc]) k_ hk_)⟩)) (below_size (by apply_rules [HB.out, below_alloc, pw_below_drewN, below_drew1, below_set, GE1355.out, GE1364.out, GE1365.out])))
     have n3_ := Aside0.mk (blk_below (g := gb1355) (o := .cells #[.string (⟨#[]⟩ : ByteArray), .string (⟨#[]⟩ : ByteArray)] 38 (0, 0)) (by apply_rules [BK1355.out, blk_drewN, blk_drew, blk_alloc]) hb)
     have n4_ := Aside0.mk (blk_below (g := gb1364) (o := .cells #[.bool x1365000_1, u1365001] 101 (0, 0)) (by apply_rules [BK1364.out, blk_drewN, blk_drew, blk_alloc]) hb)
     have n5_ := Aside0.mk (blk_below (g := gb1365) (o := .cells #[.bool x1366000_1, u1366001] 101 (0, 0)) (by apply_rules [BK1365.out, blk_drewN, blk_drew, blk_alloc]) hb)
     have n6_ := Aside0.mk (below_step (by apply_rules [HB.out, below_alloc, pw_below_drewN, below_drew1, below_set, GE1355.out, GE1364.out, GE1365.out]) hb)
     clear HO_1365001
     clear HO_1366001
     clear BK1355
     clear BK1364
     clear BK1365
     clear HB
     have HO_1365001 := n0_
     have HO_1366001 := n1_
     have HO1373 := n2_
     have BK1355 := n3_
     have BK1364 := n4_
     have BK1365 := n5_
     have HB := n6_
     clear n0_ n1_ n2_ n3_ n4_ n5_ n6_
     (try clear hb)
     (try clear hb2)
     (try clear hk)
     (try clear hi)
     (try clear ho0)
     obtain ⟨Ao26, co26, eo26⟩ := Kd.V_slice HO_1365001.out
     (first | subst eo26 | (injection eo26 with f1_ f2_ f3_; have f4_ := f1_.symm; have f5_ := f3_.symm; clear f1_ f2_ f3_; subst f4_; subst f5_))
     obtain ⟨Ao27, co27, eo27⟩ := Kd.V_slice HO1373.out
     (first | subst eo27 | (injection eo27 with f1_ f2_ f3_; have f4_ := f1_.symm; have f5_ := f3_.symm; clear f1_ f2_ f3_; subst f4_; subst f5_))
     refine hK.out _ _ ⟨(blk_cell BK1364.out 0).trans rfl, (blk_cell BK1364.out 1).trans rfl, ((HB.out.cell (World.block_lt_of_cell? w _ hw1369_0)).trans hw1369_0)⟩ (fun hHeld => ?_)
     clear hK K
     refine norm_ (a' := ?_) ?_ ?_
     rotate_left
     ·show Act.put _ (some 26) _ = _
      simp only [Act.put, List.setIfInBounds_toArray, List.set_cons_zero, List.set_cons_succ, i64_w, i32_w]
      rfl
     refine one_ (i := 7) (N := some 27) #[true, true, true, true, true, true, true, true, false] rfl rfl (one_of HT_.out (by kernel_rfl)) (by decide) (fun K hK => ?_)
     refine goes_ Tryz.func136 (by kernel_rfl) rfl #[.agg #[.bool x1365000_1, .slice Ao26 x1365001_1.length co26], .agg #[.bool t1370, .slice Ao27 t1371.length co27]] (by rfl) rfl rfl (by (try simp only [List.map_toArray, List.map_cons, List.map_nil]); first | done | rfl | (simp only [List.length_drop, List.length_take]; rfl)) ?_
     with_reducible refine (schismaref03_MulW.calls k1 x1365000_1 _ _ x1365001_1 t1370 _ _ t1371 t1374 t1375 _ ?side1 ?side2 ?side3 ?side4 A23.out).mono ?_
     (case side1 => apply_rules [(Kd.V_reads' HO_1365001.out).2.2, Kd.C_alloc, Kd.C_drewN, Kd.C_drew])
     (case side2 => exact (Kd.V_reads' HO_1365001.out).2.1)
     (case side3 => apply_rules [(Kd.V_reads' HO1373.out).2.2, Kd.C_alloc, Kd.C_drewN, Kd.C_drew])
     (case side4 => exact (Kd.V_reads' HO1373.out).2.1)
     rintro e w28 ⟨v1376, rfl, ho0, hb⟩
     refine ⟨_, rfl, ?_⟩
     have n0_ := Aside0.mk (Kd.V_below (by apply_rules [HO_1365001.out, Kd.V_alloc, Kd.V_drewN, Kd.V_drew]) hb)
     have n1_ := Aside0.mk (Kd.V_below (by apply_rules [HO_1366001.out, Kd.V_alloc, Kd.V_drewN, Kd.V_drew]) hb)
     have n2_ := Aside0.mk (Kd.V_below (by apply_rules [HO1373.out, Kd.V_alloc, Kd.V_drewN, Kd.V_drew]) hb)
     have n3_ := Aside0.mk (Kd.V_lower (Kd.V_mono (ok' := fun k_ => k_ ≠ gb1355 ∧ k_ ≠ gb1364 ∧ k_ ≠ gb1365) ho0 (fun k_ hk_ => ⟨(Kd.freshB (g := gb1355) (o := .cells #[.string (⟨#[]⟩ : ByteArray), .string (⟨#[]⟩ : ByteArray)] 38 (0, 0)) (by apply_rules [BK1355.out, blk_drewN, blk_drew, blk_alloc]) k_ hk_), (Kd.freshB (g := gb1364) (o := .cells #[.bool x1365000_1, .slice Ao26 x1365001_1.length co26] 101 (0, 0)) (by apply_rules [BK1364.out, blk_drewN, blk_drew, blk_alloc]) k_ hk_), (Kd.freshB (g := gb1365) (o := .cells #[.bool x1366000_1, u1366001] 101 (0, 0)) (by apply_rules [BK1365.out, blk_drewN, blk_drew, blk_alloc]) k_ hk_)⟩)) (below_size (by apply_rules [HB.out, below_alloc, pw_below_drewN, below_drew1, below_set, GE1355.out, GE1364.out, GE1365.out])))
     have n4_ := Aside0.mk (blk_below (g := gb1355) (o := .cells #[.string (⟨#[]⟩ : ByteArray), .string (⟨#[]⟩ : ByteArray)] 38 (0, 0)) (by apply_rules [BK1355.out, blk_drewN, blk_drew, blk_alloc]) hb)
     have n5_ := Aside0.mk (blk_below (g := gb1364) (o := .cells #[.bool x1365000_1, .slice Ao26 x1365001_1.length co26] 101 (0, 0)) (by apply_rules [BK1364.out, blk_drewN, blk_drew, blk_alloc]) hb)
     have n6_ := Aside0.mk (blk_below (g := gb1365) (o := .cells #[.bool x1366000_1, u1366001] 101 (0, 0)) (by apply_rules [BK1365.out, blk_drewN, blk_drew, blk_alloc]) hb)
     have n7_ := Aside0.mk (below_step (by apply_rules [HB.out, below_alloc, pw_below_drewN, below_drew1, below_set, GE1355.out, GE1364.out, GE1365.out]) hb)
     clear HO_1365001
     clear HO_1366001
     clear HO1373
     clear BK1355
     clear BK1364
     clear BK1365
     clear HB
     have HO_1365001 := n0_
     have HO_1366001 := n1_
     have HO1373 := n2_
     have HO1377 := n3_
     have BK1355 := n4_
     have BK1364 := n5_
     have BK1365 := n6_
     have HB := n7_
     clear n0_ n1_ n2_ n3_ n4_ n5_ n6_ n7_
     (try clear hb)
     (try clear hb2)
     (try clear hk)
     (try clear hi)
     (try clear ho0)
     obtain ⟨Ao30, co30, eo30⟩ := Kd.V_slice HO1377.out
     (first | subst eo30 | (injection eo30 with f1_ f2_ f3_; have f4_ := f1_.symm; have f5_ := f3_.symm; clear f1_ f2_ f3_; subst f4_; subst f5_))
     refine hK.out _ _ ⟨(blk_cell BK1364.out 0).trans rfl, (blk_cell BK1364.out 1).trans rfl, ((HB.out.cell (World.block_lt_of_cell? w _ hw1369_0)).trans hw1369_0)⟩ (fun hHeld => ?_)
     clear hK K
     refine norm_ (a' := ?_) ?_ ?_
     rotate_left
     ·show Act.put _ (some 27) _ = _
      simp only [Act.put, List.setIfInBounds_toArray, List.set_cons_zero, List.set_cons_succ, i64_w, i32_w]
      rfl
     refine last_ (i := 8) (N := none) #[true, true, true, true, true, true, true, true, true] rfl rfl (one_of HT_.out (by kernel_rfl)) (by decide) (fun K hK => ?_)
     have hs29 : w28.cell? ⟨gb1364, 0, none⟩ = some (.bool x1365000_1) := (blk_cell BK1364.out 0).trans rfl
     have hfs29 := blk_frozen BK1364.out 0
     have hns29_0 := NB1355_1364.out
     have hns29_2 := NB1365_1364.out
     have hms29_0 := NB1364_1355.out
     have hms29_2 := NB1364_1365.out
     have hs31 : w28.cell? ⟨gb1364, 1, none⟩ = some (.slice Ao26 x1365001_1.length co26) := (blk_cell BK1364.out 1).trans rfl
     have hfs31 := blk_frozen BK1364.out 1
     have hns31_0 := NB1355_1364.out
     have hns31_2 := NB1365_1364.out
     have hms31_0 := NB1364_1355.out
     have hms31_2 := NB1364_1365.out
     refine skip_ (w1 := ?_) (by rfl) rfl ?_ ?_
     rotate_left
     ·go_simp
      rfl
     refine hK.out _ _ ?_
     clear hK K
     refine done_ (done_of HT_.out (by kernel_rfl)) ?_
     try go_wp2
     go_roundg k1
     case measure => have := HK1.out; omega
     case rel => exact ⟨(wrap64 (x13_1 + 1)), (t1374), (t1375), (x1366000_1), (x1366001_1), (.slice Ao30 t1375.length co30), (u1366001), (by first | rfl | (simp; done) | (simp [*]; done)), H', ⟨by have := HK1.out; omega⟩, ⟨by (with_reducible repeat (first | apply Kd.V_alloc | apply Kd.V_drewN | apply Kd.V_drew)); exact Kd.V_mono (Kd.V_far (p := ⟨gb1364, 1, none⟩) (Kd.V_far (p := ⟨gb1364, 0, none⟩) (Kd.V_mono HO1377.out (fun k_ hk => (⟨hk, hk.2.1⟩ : _ ∧ k_ ≠ gb1364))) (fun _ hk => hk.2) (.bool t1374)) (fun _ hk => hk.2) (.slice Ao30 t1375.length co30)) (fun _ hk => ⟨hk.1.1, ⟨hk.1.2.1, hk.1.2.2⟩⟩)⟩, ⟨by (with_reducible repeat (first | apply Kd.V_alloc | apply Kd.V_drewN | apply Kd.V_drew)); exact Kd.V_mono (Kd.V_far (p := ⟨gb1364, 1, none⟩) (Kd.V_far (p := ⟨gb1364, 0, none⟩) (Kd.V_mono HO_1366001.out (fun k_ hk => (⟨hk, hk.2.1⟩ : _ ∧ k_ ≠ gb1364))) (fun _ hk => hk.2) (.bool t1374)) (fun _ hk => hk.2) (.slice Ao30 t1375.length co30)) (fun _ hk => ⟨hk.1.1, ⟨hk.1.2.1, hk.1.2.2⟩⟩)⟩, ⟨by (with_reducible repeat (first | refine blk_drewN ?_ _ | refine blk_drew ?_ | refine blk_alloc ?_ _)); refine blk_far ?_ NB1355_1364.out _; (with_reducible repeat (first | refine blk_drewN ?_ _ | refine blk_drew ?_ | refine blk_alloc ?_ _)); refine blk_far ?_ NB1355_1364.out _; apply_rules [BK1355.out, blk_drewN, blk_drew, blk_alloc]⟩, ⟨by (with_reducible repeat (first | refine blk_drewN ?_ _ | refine blk_drew ?_ | refine blk_alloc ?_ _)); refine blk_put (cs := #[.bool t1374, .slice Ao26 x1365001_1.length co26]) ?_ 1 _ rfl; (with_reducible repeat (first | refine blk_drewN ?_ _ | refine blk_drew ?_ | refine blk_alloc ?_ _)); refine blk_put (cs := #[.bool x1365000_1, .slice Ao26 x1365001_1.length co26]) ?_ 0 _ rfl; apply_rules [BK1364.out, blk_drewN, blk_drew, blk_alloc]⟩, ⟨by (with_reducible repeat (first | refine blk_drewN ?_ _ | refine blk_drew ?_ | refine blk_alloc ?_ _)); refine blk_far ?_ NB1365_1364.out _; (with_reducible repeat (first | refine blk_drewN ?_ _ | refine blk_drew ?_ | refine blk_alloc ?_ _)); refine blk_far ?_ NB1365_1364.out _; apply_rules [BK1365.out, blk_drewN, blk_drew, blk_alloc]⟩, ⟨by apply_rules [HB.out, below_alloc, pw_below_drewN, below_drew1, below_set, GE1355.out, GE1364.out, GE1365.out]⟩⟩
    ·rw [if_neg c20] at H
     have c20b0 : decide (0 < (rd l1 x13_1)) = false := decide_eq_false c20
     clear c20
     by_cases c32 : x13_1 < (l0.length : Int)
     case neg => rw [if_neg c32] at H; exact absurd H (by simp)
     rw [if_pos c32] at H
     have c32b0 : decide (x13_1 < (l0.length : Int)) = true := decide_eq_true c32
     clear c32
     replace H := Option.bind_eq_some_iff.mp H
     obtain ⟨⟨t1379, t1380⟩, A330, H⟩ := H
     try dsimp only at H
     have A33 := Aside0.mk A330
     clear A330
     replace H := Option.bind_eq_some_iff.mp H
     obtain ⟨⟨t1383, t1384⟩, A340, H⟩ := H
     try dsimp only at H
     have A34 := Aside0.mk A340
     clear A340
     have H' := Aside0.mk H
     clear H
     have p1368 : 0 ≤ (x13_1 : Int) := of_decide_eq_true (by assumption)
     have q1368 : x13_1 < (l1.length : Int) := of_decide_eq_true (by assumption)
     obtain ⟨ad1368, e1368, hx1368_0⟩ := Kd.at_int HR1.out x13_1 p1368 q1368
     cases e1368
     replace hx1368_0 := (HB.out.cell (World.block_lt_of_cell? w _ hx1368_0)).trans hx1368_0
     replace p1368 := eq_true p1368
     replace q1368 := eq_true q1368
     try go_wp2
     have n0_ := Aside0.mk (Kd.V_drew HO_1365001.out)
     have n1_ := Aside0.mk (Kd.V_drew HO_1366001.out)
     have n2_ := Aside0.mk (blk_drew BK1355.out)
     have n3_ := Aside0.mk (blk_drew BK1364.out)
     have n4_ := Aside0.mk (blk_drew BK1365.out)
     have n5_ := Aside0.mk (below_drew1 HB.out)
     clear HO_1365001
     clear HO_1366001
     clear BK1355
     clear BK1364
     clear BK1365
     clear HB
     have HO_1365001 := n0_
     have HO_1366001 := n1_
     have BK1355 := n2_
     have BK1364 := n3_
     have BK1365 := n4_
     have HB := n5_
     clear n0_ n1_ n2_ n3_ n4_ n5_
     have p1378 : 0 ≤ (x13_1 : Int) := of_decide_eq_true (by assumption)
     have q1378 : x13_1 < (l0.length : Int) := of_decide_eq_true (by assumption)
     obtain ⟨ad1378, e1378, hx1378_0⟩ := Kd.at_int HR0.out x13_1 p1378 q1378
     have hw1378_0 := hx1378_0
     cases e1378
     replace hx1378_0 := (HB.out.cell (World.block_lt_of_cell? w _ hx1378_0)).trans hx1378_0
     replace p1378 := eq_true p1378
     replace q1378 := eq_true q1378
     refine start_ (n := 10) (S := fun w' => w'.cell? ⟨gb1365, 0, none⟩ = some (.bool x1366000_1) ∧ w'.cell? ⟨gb1365, 1, none⟩ = some (u1366001) ∧ w'.cell? (ad1378.add (x13_1).toNat) = some (.int .i64 (rd l0 x13_1))) (ds := [9]) #[false, false, false, false, false, false, false, false, false, false] (by kernel_rfl) rfl rfl ⟨(blk_cell BK1365.out 0).trans rfl, (blk_cell BK1365.out 1).trans rfl, ((HB.out.cell (World.block_lt_of_cell? w _ hw1378_0)).trans hw1378_0)⟩ (fun hHeld => ?_); refine with_tabW schismalaw11_value.tab7 schismalaw11_value.bits7 (fun HT_ HW_ => ?_)
     generalize wr.drew = w35 at HO_1365001 HO_1366001 BK1355 BK1364 BK1365 HB hx1378_0 hHeld ⊢
     refine pure_ (i := 1) (N := some 29) (v := ?_) (a' := ?_) #[false, true, false, false, false, false, false, false, false, false] rfl rfl (any_of HT_.out (by kernel_rfl)) (fun _ _ _ h => h) (Or.inl ⟨by rfl, ?_⟩) ?_ ?_
     rotate_left
     ·intro w'
      go_simp
      with_reducible rfl
     rotate_left
     ·simp only [Act.put, List.setIfInBounds_toArray, List.set_cons_zero, List.set_cons_succ, i64_w, i32_w]
      rfl
     refine pure_ (i := 2) (N := some 30) (v := ?_) (a' := ?_) #[false, true, true, false, false, false, false, false, false, false] rfl rfl (any_of HT_.out (by kernel_rfl)) (fun _ _ _ h => h) (Or.inl ⟨by rfl, ?_⟩) ?_ ?_
     rotate_left
     ·intro w'
      go_simp
      with_reducible rfl
     rotate_left
     ·simp only [Act.put, List.setIfInBounds_toArray, List.set_cons_zero, List.set_cons_succ, i64_w, i32_w]
      rfl
     refine pure_ (i := 3) (N := some 31) (v := ?_) (a' := ?_) #[false, true, true, true, false, false, false, false, false, false] rfl rfl (any_of HT_.out (by kernel_rfl)) (fun _ _ _ h => h) (Or.inl ⟨by rfl, ?_⟩) ?_ ?_
     rotate_left
     ·intro w'
      go_simp
      with_reducible rfl
     rotate_left
     ·simp only [Act.put, List.setIfInBounds_toArray, List.set_cons_zero, List.set_cons_succ, i64_w, i32_w]
      rfl
     refine pure_ (i := 5) (N := some 33) (v := ?_) (a' := ?_) #[false, true, true, true, false, true, false, false, false, false] rfl rfl (any_of HT_.out (by kernel_rfl)) (fun _ _ _ h => h) (Or.inl ⟨by rfl, ?_⟩) ?_ ?_
     rotate_left
     ·intro w'
      go_simp
      with_reducible rfl
     rotate_left
     ·simp only [Act.put, List.setIfInBounds_toArray, List.set_cons_zero, List.set_cons_succ, i64_w, i32_w]
      rfl
     refine pure_ (i := 6) (N := some 34) (v := ?_) (a' := ?_) #[false, true, true, true, false, true, true, false, false, false] rfl rfl (any_of HT_.out (by kernel_rfl)) (fun _ _ _ h => h) (Or.inl ⟨by rfl, ?_⟩) ?_ ?_
     rotate_left
     ·intro w'
      go_simp
      with_reducible rfl
     rotate_left
     ·simp only [Act.put, List.setIfInBounds_toArray, List.set_cons_zero, List.set_cons_succ, i64_w, i32_w]
      rfl
     refine take_ (i := 0) (N := some 28) (v := ?_) (a' := ?_) #[true, true, true, true, false, true, true, false, false, false] rfl rfl (take_ofW HT_.out HW_.out (by kernel_rfl)) (fun _ _ _ h => h) (Or.inl ⟨by rfl, ?_⟩) hHeld ?_ ?_
     rotate_left
     ·rintro w' ⟨s0, s1, s2⟩
      go_simp
      with_reducible rfl
     rotate_left
     ·simp only [Act.put, List.setIfInBounds_toArray, List.set_cons_zero, List.set_cons_succ, i64_w, i32_w]
      rfl
     refine take_ (i := 4) (N := some 32) (v := ?_) (a' := ?_) #[true, true, true, true, true, true, true, false, false, false] rfl rfl (take_ofW HT_.out HW_.out (by kernel_rfl)) (fun _ _ _ h => h) (Or.inl ⟨by rfl, ?_⟩) hHeld ?_ ?_
     rotate_left
     ·rintro w' ⟨s0, s1, s2⟩
      go_simp
      with_reducible rfl
     rotate_left
     ·simp only [Act.put, List.setIfInBounds_toArray, List.set_cons_zero, List.set_cons_succ, i64_w, i32_w]
      rfl
     refine one_ (i := 7) (N := some 35) #[true, true, true, true, true, true, true, true, false, false] rfl rfl (one_of HT_.out (by kernel_rfl)) (by decide) (fun K hK => ?_)
     refine goes_ Tryz.func77 (by kernel_rfl) rfl #[.int .i64 (rd l0 x13_1), .int .i64 (wrap64 (-(rd l1 x13_1)))] (by rfl) rfl rfl (by (try simp only [List.map_toArray, List.map_cons, List.map_nil]); first | done | rfl | (simp only [List.length_drop, List.length_take]; rfl)) ?_
     with_reducible refine (schismalaw11_power.calls k1 (rd l0 x13_1) (wrap64 (-(rd l1 x13_1))) t1379 t1380 _ ?side1 A33.out).mono ?_
     (case side1 => refine TabW.below hT ?_; apply_rules [HB.out, below_alloc, pw_below_drewN, below_drew1, below_set, GE1355.out, GE1364.out, GE1365.out])
     rintro e w36 ⟨v1381, rfl, ho0, hb⟩
     refine ⟨_, rfl, ?_⟩
     have n0_ := Aside0.mk (Kd.V_below (by apply_rules [HO_1365001.out, Kd.V_alloc, Kd.V_drewN, Kd.V_drew]) hb)
     have n1_ := Aside0.mk (Kd.V_below (by apply_rules [HO_1366001.out, Kd.V_alloc, Kd.V_drewN, Kd.V_drew]) hb)
     have n2_ := Aside0.mk (Kd.V_lower (Kd.V_mono (ok' := fun k_ => k_ ≠ gb1355 ∧ k_ ≠ gb1364 ∧ k_ ≠ gb1365) ho0 (fun k_ hk_ => ⟨(Kd.freshB (g := gb1355) (o := .cells #[.string (⟨#[]⟩ : ByteArray), .string (⟨#[]⟩ : ByteArray)] 38 (0, 0)) (by apply_rules [BK1355.out, blk_drewN, blk_drew, blk_alloc]) k_ hk_), (Kd.freshB (g := gb1364) (o := .cells #[.bool x1365000_1, u1365001] 101 (0, 0)) (by apply_rules [BK1364.out, blk_drewN, blk_drew, blk_alloc]) k_ hk_), (Kd.freshB (g := gb1365) (o := .cells #[.bool x1366000_1, u1366001] 101 (0, 0)) (by apply_rules [BK1365.out, blk_drewN, blk_drew, blk_alloc]) k_ hk_)⟩)) (below_size (by apply_rules [HB.out, below_alloc, pw_below_drewN, below_drew1, below_set, GE1355.out, GE1364.out, GE1365.out])))
     have n3_ := Aside0.mk (blk_below (g := gb1355) (o := .cells #[.string (⟨#[]⟩ : ByteArray), .string (⟨#[]⟩ : ByteArray)] 38 (0, 0)) (by apply_rules [BK1355.out, blk_drewN, blk_drew, blk_alloc]) hb)
     have n4_ := Aside0.mk (blk_below (g := gb1364) (o := .cells #[.bool x1365000_1, u1365001] 101 (0, 0)) (by apply_rules [BK1364.out, blk_drewN, blk_drew, blk_alloc]) hb)
     have n5_ := Aside0.mk (blk_below (g := gb1365) (o := .cells #[.bool x1366000_1, u1366001] 101 (0, 0)) (by apply_rules [BK1365.out, blk_drewN, blk_drew, blk_alloc]) hb)
     have n6_ := Aside0.mk (below_step (by apply_rules [HB.out, below_alloc, pw_below_drewN, below_drew1, below_set, GE1355.out, GE1364.out, GE1365.out]) hb)
     clear HO_1365001
     clear HO_1366001
     clear BK1355
     clear BK1364
     clear BK1365
     clear HB
     have HO_1365001 := n0_
     have HO_1366001 := n1_
     have HO1382 := n2_
     have BK1355 := n3_
     have BK1364 := n4_
     have BK1365 := n5_
     have HB := n6_
     clear n0_ n1_ n2_ n3_ n4_ n5_ n6_
     (try clear hb)
     (try clear hb2)
     (try clear hk)
     (try clear hi)
     (try clear ho0)
     obtain ⟨Ao37, co37, eo37⟩ := Kd.V_slice HO_1366001.out
     (first | subst eo37 | (injection eo37 with f1_ f2_ f3_; have f4_ := f1_.symm; have f5_ := f3_.symm; clear f1_ f2_ f3_; subst f4_; subst f5_))
     obtain ⟨Ao38, co38, eo38⟩ := Kd.V_slice HO1382.out
     (first | subst eo38 | (injection eo38 with f1_ f2_ f3_; have f4_ := f1_.symm; have f5_ := f3_.symm; clear f1_ f2_ f3_; subst f4_; subst f5_))
     refine hK.out _ _ ⟨(blk_cell BK1365.out 0).trans rfl, (blk_cell BK1365.out 1).trans rfl, ((HB.out.cell (World.block_lt_of_cell? w _ hw1378_0)).trans hw1378_0)⟩ (fun hHeld => ?_)
     clear hK K
     refine norm_ (a' := ?_) ?_ ?_
     rotate_left
     ·show Act.put _ (some 35) _ = _
      simp only [Act.put, List.setIfInBounds_toArray, List.set_cons_zero, List.set_cons_succ, i64_w, i32_w]
      rfl
     refine one_ (i := 8) (N := some 36) #[true, true, true, true, true, true, true, true, true, false] rfl rfl (one_of HT_.out (by kernel_rfl)) (by decide) (fun K hK => ?_)
     refine goes_ Tryz.func136 (by kernel_rfl) rfl #[.agg #[.bool x1366000_1, .slice Ao37 x1366001_1.length co37], .agg #[.bool t1379, .slice Ao38 t1380.length co38]] (by rfl) rfl rfl (by (try simp only [List.map_toArray, List.map_cons, List.map_nil]); first | done | rfl | (simp only [List.length_drop, List.length_take]; rfl)) ?_
     with_reducible refine (schismaref03_MulW.calls k1 x1366000_1 _ _ x1366001_1 t1379 _ _ t1380 t1383 t1384 _ ?side1 ?side2 ?side3 ?side4 A34.out).mono ?_
     (case side1 => apply_rules [(Kd.V_reads' HO_1366001.out).2.2, Kd.C_alloc, Kd.C_drewN, Kd.C_drew])
     (case side2 => exact (Kd.V_reads' HO_1366001.out).2.1)
     (case side3 => apply_rules [(Kd.V_reads' HO1382.out).2.2, Kd.C_alloc, Kd.C_drewN, Kd.C_drew])
     (case side4 => exact (Kd.V_reads' HO1382.out).2.1)
     rintro e w39 ⟨v1385, rfl, ho0, hb⟩
     refine ⟨_, rfl, ?_⟩
     have n0_ := Aside0.mk (Kd.V_below (by apply_rules [HO_1365001.out, Kd.V_alloc, Kd.V_drewN, Kd.V_drew]) hb)
     have n1_ := Aside0.mk (Kd.V_below (by apply_rules [HO_1366001.out, Kd.V_alloc, Kd.V_drewN, Kd.V_drew]) hb)
     have n2_ := Aside0.mk (Kd.V_below (by apply_rules [HO1382.out, Kd.V_alloc, Kd.V_drewN, Kd.V_drew]) hb)
     have n3_ := Aside0.mk (Kd.V_lower (Kd.V_mono (ok' := fun k_ => k_ ≠ gb1355 ∧ k_ ≠ gb1364 ∧ k_ ≠ gb1365) ho0 (fun k_ hk_ => ⟨(Kd.freshB (g := gb1355) (o := .cells #[.string (⟨#[]⟩ : ByteArray), .string (⟨#[]⟩ : ByteArray)] 38 (0, 0)) (by apply_rules [BK1355.out, blk_drewN, blk_drew, blk_alloc]) k_ hk_), (Kd.freshB (g := gb1364) (o := .cells #[.bool x1365000_1, u1365001] 101 (0, 0)) (by apply_rules [BK1364.out, blk_drewN, blk_drew, blk_alloc]) k_ hk_), (Kd.freshB (g := gb1365) (o := .cells #[.bool x1366000_1, .slice Ao37 x1366001_1.length co37] 101 (0, 0)) (by apply_rules [BK1365.out, blk_drewN, blk_drew, blk_alloc]) k_ hk_)⟩)) (below_size (by apply_rules [HB.out, below_alloc, pw_below_drewN, below_drew1, below_set, GE1355.out, GE1364.out, GE1365.out])))
     have n4_ := Aside0.mk (blk_below (g := gb1355) (o := .cells #[.string (⟨#[]⟩ : ByteArray), .string (⟨#[]⟩ : ByteArray)] 38 (0, 0)) (by apply_rules [BK1355.out, blk_drewN, blk_drew, blk_alloc]) hb)
     have n5_ := Aside0.mk (blk_below (g := gb1364) (o := .cells #[.bool x1365000_1, u1365001] 101 (0, 0)) (by apply_rules [BK1364.out, blk_drewN, blk_drew, blk_alloc]) hb)
     have n6_ := Aside0.mk (blk_below (g := gb1365) (o := .cells #[.bool x1366000_1, .slice Ao37 x1366001_1.length co37] 101 (0, 0)) (by apply_rules [BK1365.out, blk_drewN, blk_drew, blk_alloc]) hb)
     have n7_ := Aside0.mk (below_step (by apply_rules [HB.out, below_alloc, pw_below_drewN, below_drew1, below_set, GE1355.out, GE1364.out, GE1365.out]) hb)
     clear HO_1365001
     clear HO_1366001
     clear HO1382
     clear BK1355
     clear BK1364
     clear BK1365
     clear HB
     have HO_1365001 := n0_
     have HO_1366001 := n1_
     have HO1382 := n2_
     have HO1386 := n3_
     have BK1355 := n4_
     have BK1364 := n5_
     have BK1365 := n6_
     have HB := n7_
     clear n0_ n1_ n2_ n3_ n4_ n5_ n6_ n7_
     (try clear hb)
     (try clear hb2)
     (try clear hk)
     (try clear hi)
     (try clear ho0)
     obtain ⟨Ao41, co41, eo41⟩ := Kd.V_slice HO1386.out
     (first | subst eo41 | (injection eo41 with f1_ f2_ f3_; have f4_ := f1_.symm; have f5_ := f3_.symm; clear f1_ f2_ f3_; subst f4_; subst f5_))
     refine hK.out _ _ ⟨(blk_cell BK1365.out 0).trans rfl, (blk_cell BK1365.out 1).trans rfl, ((HB.out.cell (World.block_lt_of_cell? w _ hw1378_0)).trans hw1378_0)⟩ (fun hHeld => ?_)
     clear hK K
     refine norm_ (a' := ?_) ?_ ?_
     rotate_left
     ·show Act.put _ (some 36) _ = _
      simp only [Act.put, List.setIfInBounds_toArray, List.set_cons_zero, List.set_cons_succ, i64_w, i32_w]
      rfl
     refine last_ (i := 9) (N := none) #[true, true, true, true, true, true, true, true, true, true] rfl rfl (one_of HT_.out (by kernel_rfl)) (by decide) (fun K hK => ?_)
     have hs40 : w39.cell? ⟨gb1365, 0, none⟩ = some (.bool x1366000_1) := (blk_cell BK1365.out 0).trans rfl
     have hfs40 := blk_frozen BK1365.out 0
     have hns40_0 := NB1355_1365.out
     have hns40_1 := NB1364_1365.out
     have hms40_0 := NB1365_1355.out
     have hms40_1 := NB1365_1364.out
     have hs42 : w39.cell? ⟨gb1365, 1, none⟩ = some (.slice Ao37 x1366001_1.length co37) := (blk_cell BK1365.out 1).trans rfl
     have hfs42 := blk_frozen BK1365.out 1
     have hns42_0 := NB1355_1365.out
     have hns42_1 := NB1364_1365.out
     have hms42_0 := NB1365_1355.out
     have hms42_1 := NB1365_1364.out
     refine skip_ (w1 := ?_) (by rfl) rfl ?_ ?_
     rotate_left
     ·go_simp
      rfl
     refine hK.out _ _ ?_
     clear hK K
     refine done_ (done_of HT_.out (by kernel_rfl)) ?_
     try go_wp2
     go_roundg k1
     case measure => have := HK1.out; omega
     case rel => exact ⟨(wrap64 (x13_1 + 1)), (x1365000_1), (x1365001_1), (t1383), (t1384), (u1365001), (.slice Ao41 t1384.length co41), (by first | rfl | (simp; done) | (simp [*]; done)), H', ⟨by have := HK1.out; omega⟩, ⟨by (with_reducible repeat (first | apply Kd.V_alloc | apply Kd.V_drewN | apply Kd.V_drew)); exact Kd.V_mono (Kd.V_far (p := ⟨gb1365, 1, none⟩) (Kd.V_far (p := ⟨gb1365, 0, none⟩) (Kd.V_mono HO_1365001.out (fun k_ hk => (⟨hk, hk.2.2⟩ : _ ∧ k_ ≠ gb1365))) (fun _ hk => hk.2) (.bool t1383)) (fun _ hk => hk.2) (.slice Ao41 t1384.length co41)) (fun _ hk => ⟨hk.1.1, ⟨hk.1.2.1, hk.1.2.2⟩⟩)⟩, ⟨by (with_reducible repeat (first | apply Kd.V_alloc | apply Kd.V_drewN | apply Kd.V_drew)); exact Kd.V_mono (Kd.V_far (p := ⟨gb1365, 1, none⟩) (Kd.V_far (p := ⟨gb1365, 0, none⟩) (Kd.V_mono HO1386.out (fun k_ hk => (⟨hk, hk.2.2⟩ : _ ∧ k_ ≠ gb1365))) (fun _ hk => hk.2) (.bool t1383)) (fun _ hk => hk.2) (.slice Ao41 t1384.length co41)) (fun _ hk => ⟨hk.1.1, ⟨hk.1.2.1, hk.1.2.2⟩⟩)⟩, ⟨by (with_reducible repeat (first | refine blk_drewN ?_ _ | refine blk_drew ?_ | refine blk_alloc ?_ _)); refine blk_far ?_ NB1355_1365.out _; (with_reducible repeat (first | refine blk_drewN ?_ _ | refine blk_drew ?_ | refine blk_alloc ?_ _)); refine blk_far ?_ NB1355_1365.out _; apply_rules [BK1355.out, blk_drewN, blk_drew, blk_alloc]⟩, ⟨by (with_reducible repeat (first | refine blk_drewN ?_ _ | refine blk_drew ?_ | refine blk_alloc ?_ _)); refine blk_far ?_ NB1364_1365.out _; (with_reducible repeat (first | refine blk_drewN ?_ _ | refine blk_drew ?_ | refine blk_alloc ?_ _)); refine blk_far ?_ NB1364_1365.out _; apply_rules [BK1364.out, blk_drewN, blk_drew, blk_alloc]⟩, ⟨by (with_reducible repeat (first | refine blk_drewN ?_ _ | refine blk_drew ?_ | refine blk_alloc ?_ _)); refine blk_put (cs := #[.bool t1383, .slice Ao37 x1366001_1.length co37]) ?_ 1 _ rfl; (with_reducible repeat (first | refine blk_drewN ?_ _ | refine blk_drew ?_ | refine blk_alloc ?_ _)); refine blk_put (cs := #[.bool x1366000_1, .slice Ao37 x1366001_1.length co37]) ?_ 0 _ rfl; apply_rules [BK1365.out, blk_drewN, blk_drew, blk_alloc]⟩, ⟨by apply_rules [HB.out, below_alloc, pw_below_drewN, below_drew1, below_set, GE1355.out, GE1364.out, GE1365.out]⟩⟩
   ·rw [if_neg c17] at H
    have c17b0 : decide (x13_1 < (l1.length : Int)) = false := decide_eq_false c17
    clear c17
    replace H := Option.bind_eq_some_iff.mp H
    obtain ⟨t1366, A430, H⟩ := H
    try dsimp only at H
    have A43 := Aside0.mk A430
    clear A430
    replace H := Option.bind_eq_some_iff.mp H
    obtain ⟨t1367, A440, H⟩ := H
    try dsimp only at H
    have A44 := Aside0.mk A440
    clear A440
    simp only [Option.some.injEq, Prod.mk.injEq] at H
    obtain ⟨rfl, rfl⟩ := H
    try go_wp2
    have n0_ := Aside0.mk (Kd.V_drew HO_1365001.out)
    have n1_ := Aside0.mk (Kd.V_drew HO_1366001.out)
    have n2_ := Aside0.mk (blk_drew BK1355.out)
    have n3_ := Aside0.mk (blk_drew BK1364.out)
    have n4_ := Aside0.mk (blk_drew BK1365.out)
    have n5_ := Aside0.mk (below_drew1 HB.out)
    clear HO_1365001
    clear HO_1366001
    clear BK1355
    clear BK1364
    clear BK1365
    clear HB
    have HO_1365001 := n0_
    have HO_1366001 := n1_
    have BK1355 := n2_
    have BK1364 := n3_
    have BK1365 := n4_
    have HB := n5_
    clear n0_ n1_ n2_ n3_ n4_ n5_
    obtain ⟨Ao46, co46, eo46⟩ := Kd.V_slice HO_1365001.out
    (first | subst eo46 | (injection eo46 with f1_ f2_ f3_; have f4_ := f1_.symm; have f5_ := f3_.symm; clear f1_ f2_ f3_; subst f4_; subst f5_))
    refine start_ (n := 6) (S := fun w' => w'.cell? ⟨gb1364, 0, none⟩ = some (.bool x1365000_1) ∧ w'.cell? ⟨gb1364, 1, none⟩ = some (.slice Ao46 x1365001_1.length co46) ∧ w'.cell? ⟨gb1365, 0, none⟩ = some (.bool x1366000_1) ∧ w'.cell? ⟨gb1365, 1, none⟩ = some (u1366001)) (ds := []) #[false, false, false, false, false, false] (by kernel_rfl) rfl rfl ⟨(blk_cell BK1364.out 0).trans rfl, (blk_cell BK1364.out 1).trans rfl, (blk_cell BK1365.out 0).trans rfl, (blk_cell BK1365.out 1).trans rfl⟩ (fun hHeld => ?_)
    generalize wr.drew = w45 at HO_1365001 HO_1366001 BK1355 BK1364 BK1365 HB hHeld ⊢
    refine take_ (i := 0) (N := some 38) (v := ?_) (a' := ?_) #[true, false, false, false, false, false] rfl rfl (by kernel_rfl) (fun _ _ _ h => h) (Or.inl ⟨by rfl, ?_⟩) hHeld ?_ ?_
    rotate_left
    ·rintro w' ⟨s0, s1, s2, s3⟩
     go_simp
     with_reducible rfl
    rotate_left
    ·simp only [Act.put, List.setIfInBounds_toArray, List.set_cons_zero, List.set_cons_succ, i64_w, i32_w]
     rfl
    refine take_ (i := 2) (N := some 40) (v := ?_) (a' := ?_) #[true, false, true, false, false, false] rfl rfl (by kernel_rfl) (fun _ _ _ h => h) (Or.inl ⟨by rfl, ?_⟩) hHeld ?_ ?_
    rotate_left
    ·rintro w' ⟨s0, s1, s2, s3⟩
     go_simp
     with_reducible rfl
    rotate_left
    ·simp only [Act.put, List.setIfInBounds_toArray, List.set_cons_zero, List.set_cons_succ, i64_w, i32_w]
     rfl
    refine one_ (i := 1) (N := some 39) #[true, true, true, false, false, false] rfl rfl (by kernel_rfl) (by decide) (fun K hK => ?_)
    refine goes_ Tryz.func76 (by kernel_rfl) rfl #[.agg #[.bool x1365000_1, .slice Ao46 x1365001_1.length co46]] (by rfl) rfl rfl (by (try simp only [List.map_toArray, List.map_cons, List.map_nil]); first | done | rfl | (simp only [List.length_drop, List.length_take]; rfl)) ?_
    with_reducible refine (schismaref03_From.calls k1 x1365000_1 _ _ x1365001_1 t1366 _ ?side1 ?side2 ?side3 A43.out).mono ?_
    (case side1 => refine TabW.below hT ?_; apply_rules [HB.out, below_alloc, pw_below_drewN, below_drew1, below_set, GE1355.out, GE1364.out, GE1365.out])
    (case side2 => apply_rules [(Kd.V_reads' HO_1365001.out).2.2, Kd.C_alloc, Kd.C_drewN, Kd.C_drew])
    (case side3 => exact (Kd.V_reads' HO_1365001.out).2.1)
    rintro e w47 ⟨rfl, hb⟩
    refine ⟨_, rfl, ?_⟩
    have n0_ := Aside0.mk (Kd.V_below (by apply_rules [HO_1365001.out, Kd.V_alloc, Kd.V_drewN, Kd.V_drew]) hb)
    have n1_ := Aside0.mk (Kd.V_below (by apply_rules [HO_1366001.out, Kd.V_alloc, Kd.V_drewN, Kd.V_drew]) hb)
    have n2_ := Aside0.mk (blk_below (g := gb1355) (o := .cells #[.string (⟨#[]⟩ : ByteArray), .string (⟨#[]⟩ : ByteArray)] 38 (0, 0)) (by apply_rules [BK1355.out, blk_drewN, blk_drew, blk_alloc]) hb)
    have n3_ := Aside0.mk (blk_below (g := gb1364) (o := .cells #[.bool x1365000_1, .slice Ao46 x1365001_1.length co46] 101 (0, 0)) (by apply_rules [BK1364.out, blk_drewN, blk_drew, blk_alloc]) hb)
    have n4_ := Aside0.mk (blk_below (g := gb1365) (o := .cells #[.bool x1366000_1, u1366001] 101 (0, 0)) (by apply_rules [BK1365.out, blk_drewN, blk_drew, blk_alloc]) hb)
    have n5_ := Aside0.mk (below_step (by apply_rules [HB.out, below_alloc, pw_below_drewN, below_drew1, below_set, GE1355.out, GE1364.out, GE1365.out]) hb)
    clear HO_1365001
    clear HO_1366001
    clear BK1355
    clear BK1364
    clear BK1365
    clear HB
    have HO_1365001 := n0_
    have HO_1366001 := n1_
    have BK1355 := n2_
    have BK1364 := n3_
    have BK1365 := n4_
    have HB := n5_
    clear n0_ n1_ n2_ n3_ n4_ n5_
    (try clear hb)
    (try clear hb2)
    (try clear hk)
    (try clear hi)
    obtain ⟨Ao48, co48, eo48⟩ := Kd.V_slice HO_1366001.out
    (first | subst eo48 | (injection eo48 with f1_ f2_ f3_; have f4_ := f1_.symm; have f5_ := f3_.symm; clear f1_ f2_ f3_; subst f4_; subst f5_))
    refine hK.out _ _ ⟨(blk_cell BK1364.out 0).trans rfl, (blk_cell BK1364.out 1).trans rfl, (blk_cell BK1365.out 0).trans rfl, (blk_cell BK1365.out 1).trans rfl⟩ (fun hHeld => ?_)
    clear hK K
    refine norm_ (a' := ?_) ?_ ?_
    rotate_left
    ·show Act.put _ (some 39) _ = _
     simp only [Act.put, List.setIfInBounds_toArray, List.set_cons_zero, List.set_cons_succ, i64_w, i32_w]
     rfl
    refine one_ (i := 3) (N := some 41) #[true, true, true, true, false, false] rfl rfl (by kernel_rfl) (by decide) (fun K hK => ?_)
    refine goes_ Tryz.func76 (by kernel_rfl) rfl #[.agg #[.bool x1366000_1, .slice Ao48 x1366001_1.length co48]] (by rfl) rfl rfl (by (try simp only [List.map_toArray, List.map_cons, List.map_nil]); first | done | rfl | (simp only [List.length_drop, List.length_take]; rfl)) ?_
    with_reducible refine (schismaref03_From.calls k1 x1366000_1 _ _ x1366001_1 t1367 _ ?side1 ?side2 ?side3 A44.out).mono ?_
    (case side1 => refine TabW.below hT ?_; apply_rules [HB.out, below_alloc, pw_below_drewN, below_drew1, below_set, GE1355.out, GE1364.out, GE1365.out])
    (case side2 => apply_rules [(Kd.V_reads' HO_1366001.out).2.2, Kd.C_alloc, Kd.C_drewN, Kd.C_drew])
    (case side3 => exact (Kd.V_reads' HO_1366001.out).2.1)
    rintro e w49 ⟨rfl, hb⟩
    refine ⟨_, rfl, ?_⟩
    have n0_ := Aside0.mk (Kd.V_below (by apply_rules [HO_1365001.out, Kd.V_alloc, Kd.V_drewN, Kd.V_drew]) hb)
    have n1_ := Aside0.mk (Kd.V_below (by apply_rules [HO_1366001.out, Kd.V_alloc, Kd.V_drewN, Kd.V_drew]) hb)
    have n2_ := Aside0.mk (blk_below (g := gb1355) (o := .cells #[.string (⟨#[]⟩ : ByteArray), .string (⟨#[]⟩ : ByteArray)] 38 (0, 0)) (by apply_rules [BK1355.out, blk_drewN, blk_drew, blk_alloc]) hb)
    have n3_ := Aside0.mk (blk_below (g := gb1364) (o := .cells #[.bool x1365000_1, .slice Ao46 x1365001_1.length co46] 101 (0, 0)) (by apply_rules [BK1364.out, blk_drewN, blk_drew, blk_alloc]) hb)
    have n4_ := Aside0.mk (blk_below (g := gb1365) (o := .cells #[.bool x1366000_1, .slice Ao48 x1366001_1.length co48] 101 (0, 0)) (by apply_rules [BK1365.out, blk_drewN, blk_drew, blk_alloc]) hb)
    have n5_ := Aside0.mk (below_step (by apply_rules [HB.out, below_alloc, pw_below_drewN, below_drew1, below_set, GE1355.out, GE1364.out, GE1365.out]) hb)
    clear HO_1365001
    clear HO_1366001
    clear BK1355
    clear BK1364
    clear BK1365
    clear HB
    have HO_1365001 := n0_
    have HO_1366001 := n1_
    have BK1355 := n2_
    have BK1364 := n3_
    have BK1365 := n4_
    have HB := n5_
    clear n0_ n1_ n2_ n3_ n4_ n5_
    (try clear hb)
    (try clear hb2)
    (try clear hk)
    (try clear hi)
    refine hK.out _ _ ⟨(blk_cell BK1364.out 0).trans rfl, (blk_cell BK1364.out 1).trans rfl, (blk_cell BK1365.out 0).trans rfl, (blk_cell BK1365.out 1).trans rfl⟩ (fun hHeld => ?_)
    clear hK K
    refine norm_ (a' := ?_) ?_ ?_
    rotate_left
    ·show Act.put _ (some 41) _ = _
     simp only [Act.put, List.setIfInBounds_toArray, List.set_cons_zero, List.set_cons_succ, i64_w, i32_w]
     rfl
    refine pure_ (i := 4) (N := some 42) (v := ?_) (a' := ?_) #[true, true, true, true, true, false] rfl rfl (by kernel_rfl) (fun _ _ _ h => h) (Or.inl ⟨by rfl, ?_⟩) ?_ ?_
    rotate_left
    ·intro w'
     go_simp
     with_reducible rfl
    rotate_left
    ·simp only [Act.put, List.setIfInBounds_toArray, List.set_cons_zero, List.set_cons_succ, i64_w, i32_w]
     rfl
    refine one_ (i := 5) (N := none) #[true, true, true, true, true, true] rfl rfl (by kernel_rfl) (by decide) (fun K hK => ?_)
    have hs50 : w49.cell? ⟨gb1355, 0, none⟩ = some (.string (⟨#[]⟩ : ByteArray)) := (blk_cell BK1355.out 0).trans rfl
    have hfs50 := blk_frozen BK1355.out 0
    have hns50_1 := NB1364_1355.out
    have hns50_2 := NB1365_1355.out
    have hms50_1 := NB1355_1364.out
    have hms50_2 := NB1355_1365.out
    have hs51 : w49.cell? ⟨gb1355, 1, none⟩ = some (.string (⟨#[]⟩ : ByteArray)) := (blk_cell BK1355.out 1).trans rfl
    have hfs51 := blk_frozen BK1355.out 1
    have hns51_1 := NB1364_1355.out
    have hns51_2 := NB1365_1355.out
    have hms51_1 := NB1355_1364.out
    have hms51_2 := NB1355_1365.out
    refine skip_ (w1 := ?_) (by rfl) rfl ?_ ?_
    rotate_left
    ·go_simp
     rfl
    refine hK.out _ _ ⟨((cell_far (p := ⟨gb1355, _, none⟩) NB1364_1355.out _).trans (((cell_far (p := ⟨gb1355, _, none⟩) NB1364_1355.out _).trans (hHeld.1)))), ((cell_far (p := ⟨gb1355, _, none⟩) NB1364_1355.out _).trans (((cell_far (p := ⟨gb1355, _, none⟩) NB1364_1355.out _).trans (hHeld.2.1)))), ((cell_far (p := ⟨gb1355, _, none⟩) NB1365_1355.out _).trans (((cell_far (p := ⟨gb1355, _, none⟩) NB1365_1355.out _).trans (hHeld.2.2.1)))), ((cell_far (p := ⟨gb1355, _, none⟩) NB1365_1355.out _).trans (((cell_far (p := ⟨gb1355, _, none⟩) NB1365_1355.out _).trans (hHeld.2.2.2))))⟩ (fun hHeld => ?_)
    clear hK K
    refine done_ (by kernel_rfl) ?_
    try go_wp2
    refine bodyPost_ret (results_cell_row rfl _ _ gb1355 38 #[.string t1366, .string t1367] (0, 0) _ rfl (by (with_reducible repeat (first | refine blk_drewN ?_ _ | refine blk_drew ?_ | refine blk_alloc ?_ _)); refine blk_put (cs := #[.string t1366, .string (⟨#[]⟩ : ByteArray)]) ?_ 1 _ rfl; (with_reducible repeat (first | refine blk_drewN ?_ _ | refine blk_drew ?_ | refine blk_alloc ?_ _)); refine blk_put (cs := #[.string (⟨#[]⟩ : ByteArray), .string (⟨#[]⟩ : ByteArray)]) ?_ 0 _ rfl; apply_rules [BK1355.out, blk_drewN, blk_drew, blk_alloc]) Tryz.underlying38 rfl (by kernel_rfl)) rfl ?_
    exact ⟨by first | rfl | simp [*], by apply_rules [HB.out, below_alloc, pw_below_drewN, below_drew1, below_set, GE1355.out, GE1364.out, GE1365.out]⟩
end Go.Proofs.YtccebdpjdpjgnaaGreatDoor.P
