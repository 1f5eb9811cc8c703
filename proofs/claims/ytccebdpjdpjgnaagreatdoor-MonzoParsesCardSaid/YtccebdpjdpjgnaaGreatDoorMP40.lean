/-
words of the walks
-/
import Derived.Test.YtccebdpjdpjgnaaGreatDoorMP38
import Derived.Test.YtccebdpjdpjgnaaGreatDoorMP39
set_option linter.unusedVariables false
set_option linter.unusedSimpArgs false
namespace Go.Proofs.YtccebdpjdpjgnaaGreatDoor.P
open Go.RowKit Go.Proofs.YtccebdpjdpjgnaaGreatDoorW.PrintWords Go.Proofs.YtccebdpjdpjgnaaGreatDoorW.PrintLast Go.Proofs.YtccebdpjdpjgnaaGreatDoorW.PrintMore
attribute [local go_sem] max2_int min2_int max_two min_two max_three min_three max_four min_four
set_option linter.unusedVariables false
set_option linter.unusedSimpArgs false
mutual
def fraction_Parse.j0 : Nat → Bool → ByteArray → ByteArray → Bool → Bool → Option (ByteArray × ByteArray × Int)
  | 0, _, _, _, _, _ => none
  | k + 1, x4, x5, x6, x7, x8 => if x7 = true then (fraction_Parse.j1 k x4 x5 x6 (!x8)) else (fraction_Parse.j1 k x4 x5 x6 true)
def fraction_Parse.j1 : Nat → Bool → ByteArray → ByteArray → Bool → Option (ByteArray × ByteArray × Int)
  | 0, _, _, _, _ => none
  | k + 1, x4, x5, x6, x83 => if x83 = true then (some ((⟨#[]⟩ : ByteArray), (⟨#[]⟩ : ByteArray), 15)) else (if x6.toList = ([48] : List UInt8) then (some ((⟨#[]⟩ : ByteArray), (⟨#[]⟩ : ByteArray), 17)) else (if x4 = true then ((whole_Neg.f x5).bind fun t702 => ((fraction_lowest.f k t702 x6).bind fun bt703 => (some (bt703.1, bt703.2, 0)))) else ((fraction_lowest.f k x5 x6).bind fun bt705 => (some (bt705.1, bt705.2, 0)))))
end
def fraction_Parse.f (k : Nat) (a0 : ByteArray) : Option (ByteArray × ByteArray × Int) := if (a0.size : Int) > 400 then (some ((⟨#[]⟩ : ByteArray), (⟨#[]⟩ : ByteArray), 16)) else ((strings_CutPrefix.f a0 (⟨#[45]⟩ : ByteArray)).bind fun bt686 => ((strings_IndexAny.f bt686.1 (⟨#[47, 46]⟩ : ByteArray)).bind fun t688 => (if t688 < 0 then ((fraction_digits.f k bt686.1).bind fun bt689 => (fraction_Parse.j0 k bt686.2 bt689.1 (⟨#[49]⟩ : ByteArray) bt689.2 true)) else (if 0 ≤ t688 then (if t688 < (bt686.1.size : Int) then (if (bt bt686.1 t688) = 47 then (if t688 ≤ (bt686.1.size : Int) then ((fraction_digits.f k (bt686.1.extract 0 (t688 : Int).toNat)).bind fun bt691 => (if 0 ≤ (wrap64 (t688 + 1)) then (if (wrap64 (t688 + 1)) ≤ (bt686.1.size : Int) then ((fraction_digits.f k (bt686.1.extract ((wrap64 (t688 + 1)) : Int).toNat bt686.1.size)).bind fun bt693 => (fraction_Parse.j0 k bt686.2 bt691.1 bt693.1 bt691.2 bt693.2)) else (none)) else (none))) else (none)) else (if t688 ≤ (bt686.1.size : Int) then ((fraction_digits.f k (bt686.1.extract 0 (t688 : Int).toNat)).bind fun bt695 => (if 0 ≤ (wrap64 (t688 + 1)) then (if (wrap64 (t688 + 1)) ≤ (bt686.1.size : Int) then ((fraction_digits.f k (bt686.1.extract ((wrap64 (t688 + 1)) : Int).toNat bt686.1.size)).bind fun bt697 => (if (bt686.1.extract 0 (t688 : Int).toNat).size + (bt686.1.extract ((wrap64 (t688 + 1)) : Int).toNat bt686.1.size).size ≤ 9223372036854775807 then ((fraction_digits.f k ((bt686.1.extract 0 (t688 : Int).toNat) ++ (bt686.1.extract ((wrap64 (t688 + 1)) : Int).toNat bt686.1.size))).bind fun bt699 => ((strings_Repeat.f (⟨#[48]⟩ : ByteArray) (wrap64 ((wrap64 ((bt686.1.size : Int) - t688)) - 1))).bind fun t701 => (if 1 + t701.size ≤ 9223372036854775807 then (fraction_Parse.j0 k bt686.2 bt699.1 ((⟨#[49]⟩ : ByteArray) ++ t701) bt695.2 bt697.2) else (none)))) else (none))) else (none)) else (none))) else (none))) else (none)) else (none)))))
def fraction_Parse.T9 : Bool × List (List Nat × List Nat) := (true, [([], []), ([], []), ([0, 1], [0, 1]), ([], []), ([], []), ([4], [4]), ([3, 5], [3, 5]), ([2, 6], [2, 6]), ([7], [7]), ([8], [8]), ([9], [9]), ([9], [9]), ([10, 8, 0, 1, 2, 3, 4, 5, 6, 7, 8, 9, 10], [10])])
def fraction_Parse.B9 : List Nat := [0, 0, 3, 0, 0, 16, 56, 127, 255, 511, 1023, 1023, 2047]
theorem fraction_Parse.tab9 : rtab .any (opsOf Tryz.f94 9) = fraction_Parse.T9 := by kernel_rfl
theorem fraction_Parse.bits9 : waitsOk fraction_Parse.T9.2 fraction_Parse.B9 = true := by kernel_rfl
set_option maxHeartbeats 8000000 in
set_option maxRecDepth 100000 in
theorem fraction_Parse.calls (k : Nat) (a0 : ByteArray) (r1 : ByteArray) (r2 : ByteArray) (r3 : Int) (w : World) (hT : TabW w) (h : fraction_Parse.f k a0 = some (r1, r2, r3)) :
    Calls Tryz.prog 94 #[.string a0] w fun e w' => e = .returned (.tuple #[.agg #[.string r1, .string r2], .int .i64 r3]) ∧ Below w.heap.size w w' := by
  have hu38 := Tryz.underlying38
  have HB := Aside0.mk (Below.refl w.heap.size w)
  have H : (if (a0.size : Int) > 400 then (some ((⟨#[]⟩ : ByteArray), (⟨#[]⟩ : ByteArray), 16)) else ((strings_CutPrefix.f a0 (⟨#[45]⟩ : ByteArray)).bind fun bt686 => ((strings_IndexAny.f bt686.1 (⟨#[47, 46]⟩ : ByteArray)).bind fun t688 => (if t688 < 0 then ((fraction_digits.f k bt686.1).bind fun bt689 => (fraction_Parse.j0 k bt686.2 bt689.1 (⟨#[49]⟩ : ByteArray) bt689.2 true)) else (if 0 ≤ t688 then (if t688 < (bt686.1.size : Int) then (if (bt bt686.1 t688) = 47 then (if t688 ≤ (bt686.1.size : Int) then ((fraction_digits.f k (bt686.1.extract 0 (t688 : Int).toNat)).bind fun bt691 => (if 0 ≤ (wrap64 (t688 + 1)) then (if (wrap64 (t688 + 1)) ≤ (bt686.1.size : Int) then ((fraction_digits.f k (bt686.1.extract ((wrap64 (t688 + 1)) : Int).toNat bt686.1.size)).bind fun bt693 => (fraction_Parse.j0 k bt686.2 bt691.1 bt693.1 bt691.2 bt693.2)) else (none)) else (none))) else (none)) else (if t688 ≤ (bt686.1.size : Int) then ((fraction_digits.f k (bt686.1.extract 0 (t688 : Int).toNat)).bind fun bt695 => (if 0 ≤ (wrap64 (t688 + 1)) then (if (wrap64 (t688 + 1)) ≤ (bt686.1.size : Int) then ((fraction_digits.f k (bt686.1.extract ((wrap64 (t688 + 1)) : Int).toNat bt686.1.size)).bind fun bt697 => (if (bt686.1.extract 0 (t688 : Int).toNat).size + (bt686.1.extract ((wrap64 (t688 + 1)) : Int).toNat bt686.1.size).size ≤ 9223372036854775807 then ((fraction_digits.f k ((bt686.1.extract 0 (t688 : Int).toNat) ++ (bt686.1.extract ((wrap64 (t688 + 1)) : Int).toNat bt686.1.size))).bind fun bt699 => ((strings_Repeat.f (⟨#[48]⟩ : ByteArray) (wrap64 ((wrap64 ((bt686.1.size : Int) - t688)) - 1))).bind fun t701 => (if 1 + t701.size ≤ 9223372036854775807 then (fraction_Parse.j0 k bt686.2 bt699.1 ((⟨#[49]⟩ : ByteArray) ++ t701) bt695.2 bt697.2) else (none)))) else (none))) else (none)) else (none))) else (none))) else (none)) else (none)))))) = some (r1, r2, r3) := h
  clear h
  by_cases c2 : (a0.size : Int) > 400
  · rw [if_pos c2] at H
    have c2b0 : decide (400 < (a0.size : Int)) = true := decide_eq_true c2
    have c2b1 : decide (400 < a0.size) = true := decide_eq_true (by omega)
    clear c2
    simp only [Option.some.injEq, Prod.mk.injEq] at H
    obtain ⟨rfl, rfl, rfl⟩ := H
    go_enter Tryz.func94, Tryz.ntmps94
    go_wp2_with (first | ((with_reducible refine gate_dst (N := 2) rfl ?_); refine box_event ?hg (N := 2) ?hd (cs := #[.string (⟨#[]⟩ : ByteArray), .string (⟨#[]⟩ : ByteArray)]) (t := 38) ?hr ?_; (case hd => rfl); (case hg => rfl); (case hr => first | (go_simp; done) | (go_simp; rfl)); intro gb685 hg w3 hbox hb; have n0_ := Aside0.mk (below_step (by repeat (first | (with_reducible first | exact HB.out | apply below_alloc | apply pw_below_drewN | apply below_drew1) | exact HB.out)) hb); have n1_ := Aside0.mk (hbox); have n2_ := Aside0.mk ((by rw [hg]; exact (below_size (by repeat (first | (with_reducible first | exact HB.out | apply below_alloc | apply pw_below_drewN | apply below_drew1) | exact HB.out))) : w.heap.size ≤ gb685)); have n3_ := Aside0.mk ((by rw [hg]; exact (below_size (by repeat (first | (with_reducible first | exact HB.out | apply below_alloc | apply pw_below_drewN | apply below_drew1) | exact HB.out))) : w.heap.size ≤ gb685)); clear HB; have HB := n0_; have BK685 := n1_; have GW685 := n2_; have GE685 := n3_; clear n0_ n1_ n2_ n3_; clear hb hbox hg; have hcz4_0 : w3.cell? ⟨gb685, 0, none⟩ = some (.string (⟨#[]⟩ : ByteArray)) := (blk_cell BK685.out 0).trans rfl; have hcz4_1 : w3.cell? ⟨gb685, 1, none⟩ = some (.string (⟨#[]⟩ : ByteArray)) := (blk_cell BK685.out 1).trans rfl; have hfz4_0 := blk_frozen BK685.out 0; have hfz4_1 := blk_frozen BK685.out 1))
    refine bodyPost_ret (results_ct rfl _ _ gb685 38 #[.string (⟨#[]⟩ : ByteArray), .string (⟨#[]⟩ : ByteArray)] (0, 0) _ rfl (by (with_reducible repeat (first | refine blk_drewN ?_ _ | refine blk_drew ?_ | refine blk_alloc ?_ _)); refine blk_put (cs := #[.string (⟨#[]⟩ : ByteArray), .string (⟨#[]⟩ : ByteArray)]) ?_ 1 _ rfl; (with_reducible repeat (first | refine blk_drewN ?_ _ | refine blk_drew ?_ | refine blk_alloc ?_ _)); refine blk_put (cs := #[.string (⟨#[]⟩ : ByteArray), .string (⟨#[]⟩ : ByteArray)]) ?_ 0 _ rfl; (with_reducible repeat (first | refine blk_drewN ?_ _ | refine blk_drew ?_ | refine blk_alloc ?_ _)); exact BK685.out) Tryz.underlying38 rfl (by kernel_rfl)) rfl ?_
    exact ⟨by first | rfl | (simp [errW_none, errW_some] <;> rfl) | (simp [*, errW_none, errW_some] <;> rfl), by repeat (first | (with_reducible first | exact HB.out | apply below_alloc | apply pw_below_drewN | apply below_drew1 | refine below_set ?_ GE685.out) | exact HB.out)⟩
  · rw [if_neg c2] at H
    have c2b0 : decide (400 < (a0.size : Int)) = false := decide_eq_false c2
    have c2b1 : decide (400 < a0.size) = false := decide_eq_false (by omega)
    clear c2
    replace H := Option.bind_eq_some_iff.mp H
    obtain ⟨⟨t686, t687⟩, A50, H⟩ := H
    replace H : ((strings_IndexAny.f t686 (⟨#[47, 46]⟩ : ByteArray)).bind fun t688 => (if t688 < 0 then ((fraction_digits.f k t686).bind fun bt689 => (fraction_Parse.j0 k t687 bt689.1 (⟨#[49]⟩ : ByteArray) bt689.2 true)) else (if 0 ≤ t688 then (if t688 < (t686.size : Int) then (if (bt t686 t688) = 47 then (if t688 ≤ (t686.size : Int) then ((fraction_digits.f k (t686.extract 0 (t688 : Int).toNat)).bind fun bt691 => (if 0 ≤ (wrap64 (t688 + 1)) then (if (wrap64 (t688 + 1)) ≤ (t686.size : Int) then ((fraction_digits.f k (t686.extract ((wrap64 (t688 + 1)) : Int).toNat t686.size)).bind fun bt693 => (fraction_Parse.j0 k t687 bt691.1 bt693.1 bt691.2 bt693.2)) else (none)) else (none))) else (none)) else (if t688 ≤ (t686.size : Int) then ((fraction_digits.f k (t686.extract 0 (t688 : Int).toNat)).bind fun bt695 => (if 0 ≤ (wrap64 (t688 + 1)) then (if (wrap64 (t688 + 1)) ≤ (t686.size : Int) then ((fraction_digits.f k (t686.extract ((wrap64 (t688 + 1)) : Int).toNat t686.size)).bind fun bt697 => (if (t686.extract 0 (t688 : Int).toNat).size + (t686.extract ((wrap64 (t688 + 1)) : Int).toNat t686.size).size ≤ 9223372036854775807 then ((fraction_digits.f k ((t686.extract 0 (t688 : Int).toNat) ++ (t686.extract ((wrap64 (t688 + 1)) : Int).toNat t686.size))).bind fun bt699 => ((strings_Repeat.f (⟨#[48]⟩ : ByteArray) (wrap64 ((wrap64 ((t686.size : Int) - t688)) - 1))).bind fun t701 => (if 1 + t701.size ≤ 9223372036854775807 then (fraction_Parse.j0 k t687 bt699.1 ((⟨#[49]⟩ : ByteArray) ++ t701) bt695.2 bt697.2) else (none)))) else (none))) else (none)) else (none))) else (none))) else (none)) else (none)))) = some (r1, r2, r3) := H
    have A5 := Aside0.mk A50
    clear A50
    replace H := Option.bind_eq_some_iff.mp H
    obtain ⟨t688, A60, H⟩ := H
    replace H : (if t688 < 0 then ((fraction_digits.f k t686).bind fun bt689 => (fraction_Parse.j0 k t687 bt689.1 (⟨#[49]⟩ : ByteArray) bt689.2 true)) else (if 0 ≤ t688 then (if t688 < (t686.size : Int) then (if (bt t686 t688) = 47 then (if t688 ≤ (t686.size : Int) then ((fraction_digits.f k (t686.extract 0 (t688 : Int).toNat)).bind fun bt691 => (if 0 ≤ (wrap64 (t688 + 1)) then (if (wrap64 (t688 + 1)) ≤ (t686.size : Int) then ((fraction_digits.f k (t686.extract ((wrap64 (t688 + 1)) : Int).toNat t686.size)).bind fun bt693 => (fraction_Parse.j0 k t687 bt691.1 bt693.1 bt691.2 bt693.2)) else (none)) else (none))) else (none)) else (if t688 ≤ (t686.size : Int) then ((fraction_digits.f k (t686.extract 0 (t688 : Int).toNat)).bind fun bt695 => (if 0 ≤ (wrap64 (t688 + 1)) then (if (wrap64 (t688 + 1)) ≤ (t686.size : Int) then ((fraction_digits.f k (t686.extract ((wrap64 (t688 + 1)) : Int).toNat t686.size)).bind fun bt697 => (if (t686.extract 0 (t688 : Int).toNat).size + (t686.extract ((wrap64 (t688 + 1)) : Int).toNat t686.size).size ≤ 9223372036854775807 then ((fraction_digits.f k ((t686.extract 0 (t688 : Int).toNat) ++ (t686.extract ((wrap64 (t688 + 1)) : Int).toNat t686.size))).bind fun bt699 => ((strings_Repeat.f (⟨#[48]⟩ : ByteArray) (wrap64 ((wrap64 ((t686.size : Int) - t688)) - 1))).bind fun t701 => (if 1 + t701.size ≤ 9223372036854775807 then (fraction_Parse.j0 k t687 bt699.1 ((⟨#[49]⟩ : ByteArray) ++ t701) bt695.2 bt697.2) else (none)))) else (none))) else (none)) else (none))) else (none))) else (none)) else (none))) = some (r1, r2, r3) := H
    have A6 := Aside0.mk A60
    clear A60
    have HC7 := Aside0.mk H
    clear H
    go_enter Tryz.func94, Tryz.ntmps94
    go_upto_block 0 with (first | ((with_reducible refine gate_dst (N := 2) rfl ?_); refine box_event ?hg (N := 2) ?hd (cs := #[.string (⟨#[]⟩ : ByteArray), .string (⟨#[]⟩ : ByteArray)]) (t := 38) ?hr ?_; (case hd => rfl); (case hg => rfl); (case hr => first | (go_simp; done) | (go_simp; rfl)); intro gb685 hg w8 hbox hb; have n0_ := Aside0.mk (below_step (by repeat (first | (with_reducible first | exact HB.out | apply below_alloc | apply pw_below_drewN | apply below_drew1) | exact HB.out)) hb); have n1_ := Aside0.mk (hbox); have n2_ := Aside0.mk ((by rw [hg]; exact (below_size (by repeat (first | (with_reducible first | exact HB.out | apply below_alloc | apply pw_below_drewN | apply below_drew1) | exact HB.out))) : w.heap.size ≤ gb685)); have n3_ := Aside0.mk ((by rw [hg]; exact (below_size (by repeat (first | (with_reducible first | exact HB.out | apply below_alloc | apply pw_below_drewN | apply below_drew1) | exact HB.out))) : w.heap.size ≤ gb685)); clear HB; have HB := n0_; have BK685 := n1_; have GW685 := n2_; have GE685 := n3_; clear n0_ n1_ n2_ n3_; clear hb hbox hg) | ((with_reducible refine gate_callee (f := 152) rfl ?_); refine goesL_ (some 16) rfl rfl Tryz.func152 (by kernel_rfl) rfl #[.string a0, .string (⟨#[45]⟩ : ByteArray)] rfl (by (try simp only [List.map_toArray, List.map_cons, List.map_nil]); first | done | rfl | (simp only [List.length_drop, List.length_take]; rfl)) ?_; (with_reducible refine (strings_CutPrefix.calls a0 (⟨#[45]⟩ : ByteArray) t686 t687 _ A5.out).mono ?_); rintro e w' ⟨rfl, ⟨nd, rfl⟩⟩; refine ⟨_, rfl, ?_⟩) | ((with_reducible refine gate_callee (f := 157) rfl ?_); refine goesL_ (some 20) rfl rfl Tryz.func157 (by kernel_rfl) rfl #[.string t686, .string (⟨#[47, 46]⟩ : ByteArray)] rfl (by (try simp only [List.map_toArray, List.map_cons, List.map_nil]); first | done | rfl | (simp only [List.length_drop, List.length_take]; rfl)) ?_; (with_reducible refine (strings_IndexAny.calls t686 (⟨#[47, 46]⟩ : ByteArray) t688 _ A6.out).mono ?_); rintro e w9 ⟨rfl, hb⟩; refine ⟨_, rfl, ?_⟩; have n0_ := Aside0.mk (blk_below (g := gb685) (o := .cells #[.string (⟨#[]⟩ : ByteArray), .string (⟨#[]⟩ : ByteArray)] 38 (0, 0)) (by (with_reducible repeat (first | refine blk_drewN ?_ _ | refine blk_drew ?_ | refine blk_alloc ?_ _)); exact BK685.out) hb); have n1_ := Aside0.mk (below_step (by repeat (first | (with_reducible first | exact HB.out | apply below_alloc | apply pw_below_drewN | apply below_drew1 | refine below_set ?_ GE685.out) | exact HB.out)) hb); clear BK685; clear HB; have BK685 := n0_; have HB := n1_; clear n0_ n1_; (try clear hb); (try clear hb2); (try clear hk); (try clear hi)))
    (try simp only [Act.put, List.setIfInBounds_toArray, List.set_cons_zero, List.set_cons_succ])
    go_cut [5, 6, 7, 8] (fun v5 v6 v7 v8 wc => ∃ (kq : Nat) (x5_6 : ByteArray) (x6_6 : ByteArray) (x7_6 : Bool) (x8_6 : Bool), v5 = .string x5_6 ∧ v6 = .string x6_6 ∧ v7 = .bool x7_6 ∧ v8 = .bool x8_6 ∧ Aside0 (fraction_Parse.j0 kq t687 x5_6 x6_6 x7_6 x8_6 = some (r1, r2, r3)) ∧ Aside0 (kq ≤ k) ∧ Aside0 (wc.heap[gb685]? = some (.cells #[.string (⟨#[]⟩ : ByteArray), .string (⟨#[]⟩ : ByteArray)] 38 (0, 0))) ∧ Aside0 (Below w.heap.size w wc))
    case first =>
      have H := HC7.out
      clear HC7
      by_cases c10 : t688 < 0
      · rw [if_pos c10] at H
        have c10b0 : decide (t688 < 0) = true := decide_eq_true c10
        clear c10
        (first | rw [c10b0] | (simp only [i64_w, i32_w]; rw [c10b0]) | skip)
        replace H := Option.bind_eq_some_iff.mp H
        obtain ⟨⟨t689, t690⟩, A110, H⟩ := H
        replace H : (fraction_Parse.j0 k t687 t689 (⟨#[49]⟩ : ByteArray) t690 true) = some (r1, r2, r3) := H
        have A11 := Aside0.mk A110
        clear A110
        have H' := Aside0.mk H
        clear H
        go_wp2_with (first | ((with_reducible refine gate_callee (f := 158) rfl ?_); refine goesL_ (some 60) rfl rfl Tryz.func158 (by kernel_rfl) rfl #[.string t686] rfl (by (try simp only [List.map_toArray, List.map_cons, List.map_nil]); first | done | rfl | (simp only [List.length_drop, List.length_take]; rfl)) ?_; (with_reducible refine (fraction_digits.calls k t686 t689 t690 _ A11.out).mono ?_); rintro e w12 ⟨rfl, hb⟩; refine ⟨_, rfl, ?_⟩; have n0_ := Aside0.mk (blk_below (g := gb685) (o := .cells #[.string (⟨#[]⟩ : ByteArray), .string (⟨#[]⟩ : ByteArray)] 38 (0, 0)) (by (with_reducible repeat (first | refine blk_drewN ?_ _ | refine blk_drew ?_ | refine blk_alloc ?_ _)); exact BK685.out) hb); have n1_ := Aside0.mk (below_step (by repeat (first | (with_reducible first | exact HB.out | apply below_alloc | apply pw_below_drewN | apply below_drew1 | refine below_set ?_ GE685.out) | exact HB.out)) hb); clear BK685; clear HB; have BK685 := n0_; have HB := n1_; clear n0_ n1_; (try clear hb); (try clear hb2); (try clear hk); (try clear hi)))
        go_meet
        case rel => exact ⟨_, (t689), ((⟨#[49]⟩ : ByteArray)), (t690), (true), (by first | rfl | (simp; done) | (simp [*]; done)), (by first | rfl | (simp; done) | (simp [*]; done)), (by first | rfl | (simp; done) | (simp [*]; done)), (by first | rfl | (simp; done) | (simp [*]; done)), H', ⟨by first | omega | exact Nat.le_refl _⟩, ⟨by (with_reducible repeat (first | refine blk_drewN ?_ _ | refine blk_drew ?_ | refine blk_alloc ?_ _)); exact BK685.out⟩, ⟨by repeat (first | (with_reducible first | exact HB.out | apply below_alloc | apply pw_below_drewN | apply below_drew1 | refine below_set ?_ GE685.out) | exact HB.out)⟩⟩
      · rw [if_neg c10] at H
        have c10b0 : decide (t688 < 0) = false := decide_eq_false c10
        clear c10
        (first | rw [c10b0] | (simp only [i64_w, i32_w]; rw [c10b0]) | skip)
        by_cases c13 : 0 ≤ t688
        · rw [if_pos c13] at H
          have c13b0 : decide (0 ≤ t688) = true := decide_eq_true c13
          clear c13
          by_cases c14 : t688 < (t686.size : Int)
          · rw [if_pos c14] at H
            have c14b0 : decide (t688 < (t686.size : Int)) = true := decide_eq_true c14
            clear c14
            by_cases c16 : (bt t686 t688) = 47
            · rw [if_pos c16] at H
              have c16b0 : ((bt t686 t688) == 47) = true := beq_iff_eq.mpr c16
              have c16b1 : ((bt t686 t688) != 47) = false := bne_eq_false_iff_eq.mpr c16
              clear c16
              have c17b0 := eq_true (of_decide_eq_true (by first | (with_reducible assumption) | assumption) : 0 ≤ t688)
              by_cases c18 : t688 ≤ (t686.size : Int)
              · rw [if_pos c18] at H
                have c18b0 := eq_true c18
                have c18b1 : decide (t688 ≤ (t686.size : Int)) = true := decide_eq_true c18
                clear c18
                replace H := Option.bind_eq_some_iff.mp H
                obtain ⟨⟨t691, t692⟩, A190, H⟩ := H
                replace H : (if 0 ≤ (wrap64 (t688 + 1)) then (if (wrap64 (t688 + 1)) ≤ (t686.size : Int) then ((fraction_digits.f k (t686.extract ((wrap64 (t688 + 1)) : Int).toNat t686.size)).bind fun bt693 => (fraction_Parse.j0 k t687 t691 bt693.1 t692 bt693.2)) else (none)) else (none)) = some (r1, r2, r3) := H
                have A19 := Aside0.mk A190
                clear A190
                obtain ⟨ji20, hji20⟩ : ∃ j_ : Int, (wrap64 (t688 + 1)) = j_ := ⟨_, rfl⟩
                replace H : (if 0 ≤ (ji20) then (if (ji20) ≤ (t686.size : Int) then ((fraction_digits.f k (t686.extract ((ji20) : Int).toNat t686.size)).bind fun bt693 => (fraction_Parse.j0 k t687 t691 bt693.1 t692 bt693.2)) else (none)) else (none)) = some (r1, r2, r3) := by first | (rw [hji20] at H; exact H) | (simp only [hji20] at H ⊢; exact H)
                (try rw [hji20] at A19)
                have hji20w : (IntKind.i64.wrap (t688 + 1)) = ji20 := (i64_w _).trans hji20
                by_cases c21 : 0 ≤ (ji20)
                · rw [if_pos c21] at H
                  have c21b0 := eq_true c21
                  have c21b1 : decide (0 ≤ (ji20)) = true := decide_eq_true c21
                  clear c21
                  by_cases c22 : (ji20) ≤ (t686.size : Int)
                  · rw [if_pos c22] at H
                    have c22b0 := eq_true c22
                    have c22b1 : decide ((ji20) ≤ (t686.size : Int)) = true := decide_eq_true c22
                    clear c22
                    replace H := Option.bind_eq_some_iff.mp H
                    obtain ⟨⟨t693, t694⟩, A230, H⟩ := H
                    replace H : (fraction_Parse.j0 k t687 t691 t693 t692 t694) = some (r1, r2, r3) := H
                    have A23 := Aside0.mk A230
                    clear A230
                    have H' := Aside0.mk H
                    clear H
                    have p15 : 0 ≤ (t688 : Int) := of_decide_eq_true (by first | (with_reducible assumption) | assumption)
                    have q15 : t688 < (t686.size : Int) := of_decide_eq_true (by first | (with_reducible assumption) | assumption)
                    have hx15 := bt_at t686 t688
                    replace p15 := eq_true p15
                    replace q15 := eq_true q15
                    go_wp2_with (first | ((with_reducible refine gate_callee (f := 158) rfl ?_); refine goesL_ (some 72) rfl rfl Tryz.func158 (by kernel_rfl) rfl #[.string (t686.extract 0 (t688 : Int).toNat)] rfl (by (try simp only [List.map_toArray, List.map_cons, List.map_nil]); first | done | rfl | (simp only [List.length_drop, List.length_take]; rfl)) ?_; (with_reducible refine (fraction_digits.calls k (t686.extract 0 (t688 : Int).toNat) t691 t692 _ A19.out).mono ?_); rintro e w24 ⟨rfl, hb⟩; refine ⟨_, rfl, ?_⟩; have n0_ := Aside0.mk (blk_below (g := gb685) (o := .cells #[.string (⟨#[]⟩ : ByteArray), .string (⟨#[]⟩ : ByteArray)] 38 (0, 0)) (by (with_reducible repeat (first | refine blk_drewN ?_ _ | refine blk_drew ?_ | refine blk_alloc ?_ _)); exact BK685.out) hb); have n1_ := Aside0.mk (below_step (by repeat (first | (with_reducible first | exact HB.out | apply below_alloc | apply pw_below_drewN | apply below_drew1 | refine below_set ?_ GE685.out) | exact HB.out)) hb); clear BK685; clear HB; have BK685 := n0_; have HB := n1_; clear n0_ n1_; (try clear hb); (try clear hb2); (try clear hk); (try clear hi)) | ((with_reducible refine gate_callee (f := 158) rfl ?_); refine goesL_ (some 80) rfl rfl Tryz.func158 (by kernel_rfl) rfl #[.string (t686.extract ((ji20) : Int).toNat t686.size)] rfl (by (try simp only [List.map_toArray, List.map_cons, List.map_nil]); first | done | (simp only [hji20]; rfl) | rfl | (simp only [List.length_drop, List.length_take]; rfl)) ?_; (with_reducible refine (fraction_digits.calls k (t686.extract ((ji20) : Int).toNat t686.size) t693 t694 _ A23.out).mono ?_); rintro e w25 ⟨rfl, hb⟩; refine ⟨_, rfl, ?_⟩; have n0_ := Aside0.mk (blk_below (g := gb685) (o := .cells #[.string (⟨#[]⟩ : ByteArray), .string (⟨#[]⟩ : ByteArray)] 38 (0, 0)) (by (with_reducible repeat (first | refine blk_drewN ?_ _ | refine blk_drew ?_ | refine blk_alloc ?_ _)); exact BK685.out) hb); have n1_ := Aside0.mk (below_step (by repeat (first | (with_reducible first | exact HB.out | apply below_alloc | apply pw_below_drewN | apply below_drew1 | refine below_set ?_ GE685.out) | exact HB.out)) hb); clear BK685; clear HB; have BK685 := n0_; have HB := n1_; clear n0_ n1_; (try clear hb); (try clear hb2); (try clear hk); (try clear hi)))
                    go_meet
                    case rel => exact ⟨_, (t691), (t693), (t692), (t694), (by first | rfl | (simp; done) | (simp [*]; done)), (by first | rfl | (simp; done) | (simp [*]; done)), (by first | rfl | (simp; done) | (simp [*]; done)), (by first | rfl | (simp; done) | (simp [*]; done)), H', ⟨by first | omega | exact Nat.le_refl _⟩, ⟨by (with_reducible repeat (first | refine blk_drewN ?_ _ | refine blk_drew ?_ | refine blk_alloc ?_ _)); exact BK685.out⟩, ⟨by repeat (first | (with_reducible first | exact HB.out | apply below_alloc | apply pw_below_drewN | apply below_drew1 | refine below_set ?_ GE685.out) | exact HB.out)⟩⟩
                  · rw [if_neg c22] at H
                    exact absurd H (by simp)
                · rw [if_neg c21] at H
                  exact absurd H (by simp)
              · rw [if_neg c18] at H
                exact absurd H (by simp)
            · rw [if_neg c16] at H
              have c16b0 : ((bt t686 t688) == 47) = false := beq_eq_false_iff_ne.mpr c16
              have c16b1 : ((bt t686 t688) != 47) = true := bne_iff_ne.mpr c16
              have c26b0 := eq_true (of_decide_eq_true (by first | (with_reducible assumption) | assumption) : 0 ≤ t688)
              by_cases c27 : t688 ≤ (t686.size : Int)
              · rw [if_pos c27] at H
                have c27b0 := eq_true c27
                have c27b1 : decide (t688 ≤ (t686.size : Int)) = true := decide_eq_true c27
                clear c27
                replace H := Option.bind_eq_some_iff.mp H
                obtain ⟨⟨t695, t696⟩, A280, H⟩ := H
                replace H : (if 0 ≤ (wrap64 (t688 + 1)) then (if (wrap64 (t688 + 1)) ≤ (t686.size : Int) then ((fraction_digits.f k (t686.extract ((wrap64 (t688 + 1)) : Int).toNat t686.size)).bind fun bt697 => (if (t686.extract 0 (t688 : Int).toNat).size + (t686.extract ((wrap64 (t688 + 1)) : Int).toNat t686.size).size ≤ 9223372036854775807 then ((fraction_digits.f k ((t686.extract 0 (t688 : Int).toNat) ++ (t686.extract ((wrap64 (t688 + 1)) : Int).toNat t686.size))).bind fun bt699 => ((strings_Repeat.f (⟨#[48]⟩ : ByteArray) (wrap64 ((wrap64 ((t686.size : Int) - t688)) - 1))).bind fun t701 => (if 1 + t701.size ≤ 9223372036854775807 then (fraction_Parse.j0 k t687 bt699.1 ((⟨#[49]⟩ : ByteArray) ++ t701) t696 bt697.2) else (none)))) else (none))) else (none)) else (none)) = some (r1, r2, r3) := H
                have A28 := Aside0.mk A280
                clear A280
                obtain ⟨ji29, hji29⟩ : ∃ j_ : Int, (wrap64 (t688 + 1)) = j_ := ⟨_, rfl⟩
                replace H : (if 0 ≤ (ji29) then (if (ji29) ≤ (t686.size : Int) then ((fraction_digits.f k (t686.extract ((ji29) : Int).toNat t686.size)).bind fun bt697 => (if (t686.extract 0 (t688 : Int).toNat).size + (t686.extract ((ji29) : Int).toNat t686.size).size ≤ 9223372036854775807 then ((fraction_digits.f k ((t686.extract 0 (t688 : Int).toNat) ++ (t686.extract ((ji29) : Int).toNat t686.size))).bind fun bt699 => ((strings_Repeat.f (⟨#[48]⟩ : ByteArray) (wrap64 ((wrap64 ((t686.size : Int) - t688)) - 1))).bind fun t701 => (if 1 + t701.size ≤ 9223372036854775807 then (fraction_Parse.j0 k t687 bt699.1 ((⟨#[49]⟩ : ByteArray) ++ t701) t696 bt697.2) else (none)))) else (none))) else (none)) else (none)) = some (r1, r2, r3) := by first | (rw [hji29] at H; exact H) | (simp only [hji29] at H ⊢; exact H)
                (try rw [hji29] at A28)
                have hji29w : (IntKind.i64.wrap (t688 + 1)) = ji29 := (i64_w _).trans hji29
                by_cases c30 : 0 ≤ (ji29)
                · rw [if_pos c30] at H
                  have c30b0 := eq_true c30
                  have c30b1 : decide (0 ≤ (ji29)) = true := decide_eq_true c30
                  clear c30
                  by_cases c31 : (ji29) ≤ (t686.size : Int)
                  · rw [if_pos c31] at H
                    have c31b0 := eq_true c31
                    have c31b1 : decide ((ji29) ≤ (t686.size : Int)) = true := decide_eq_true c31
                    clear c31
                    replace H := Option.bind_eq_some_iff.mp H
                    obtain ⟨⟨t697, t698⟩, A320, H⟩ := H
                    replace H : (if (t686.extract 0 (t688 : Int).toNat).size + (t686.extract ((ji29) : Int).toNat t686.size).size ≤ 9223372036854775807 then ((fraction_digits.f k ((t686.extract 0 (t688 : Int).toNat) ++ (t686.extract ((ji29) : Int).toNat t686.size))).bind fun bt699 => ((strings_Repeat.f (⟨#[48]⟩ : ByteArray) (wrap64 ((wrap64 ((t686.size : Int) - t688)) - 1))).bind fun t701 => (if 1 + t701.size ≤ 9223372036854775807 then (fraction_Parse.j0 k t687 bt699.1 ((⟨#[49]⟩ : ByteArray) ++ t701) t696 t698) else (none)))) else (none)) = some (r1, r2, r3) := H
                    have A32 := Aside0.mk A320
                    clear A320
                    have c33b0 := eq_true (of_decide_eq_true (by first | (with_reducible assumption) | assumption) : 0 ≤ t688)
                    have c34b0 := eq_true (of_decide_eq_true (by first | (with_reducible assumption) | assumption) : t688 ≤ (t686.size : Int))
                    have c35b0 := eq_true (of_decide_eq_true (by first | (with_reducible assumption) | assumption) : 0 ≤ (ji29))
                    have c36b0 := eq_true (of_decide_eq_true (by first | (with_reducible assumption) | assumption) : (ji29) ≤ (t686.size : Int))
                    by_cases c37 : (t686.extract 0 (t688 : Int).toNat).size + (t686.extract ((ji29) : Int).toNat t686.size).size ≤ 9223372036854775807
                    · rw [if_pos c37] at H
                      have c37b0 := eq_true c37
                      have c37b1 : decide ((t686.extract 0 (t688 : Int).toNat).size + (t686.extract ((ji29) : Int).toNat t686.size).size ≤ 9223372036854775807) = true := decide_eq_true c37
                      try have c37b2 : (9223372036854775807 < (t686.extract 0 (t688 : Int).toNat).size + (t686.extract ((ji29) : Int).toNat t686.size).size) = False := eq_false (Nat.not_lt.2 c37)
                      have c37b3 : (9223372036854775807 < t688.toNat + (t686.size - ji29.toNat)) = False := by
                        have s1_ := c37
                        have s2_ := of_decide_eq_true c14b0
                        rw [ByteArray.size_extract, ByteArray.size_extract] at s1_
                        exact eq_false (by omega)
                      replace H := Option.bind_eq_some_iff.mp H
                      obtain ⟨⟨t699, t700⟩, A380, H⟩ := H
                      replace H : ((strings_Repeat.f (⟨#[48]⟩ : ByteArray) (wrap64 ((wrap64 ((t686.size : Int) - t688)) - 1))).bind fun t701 => (if 1 + t701.size ≤ 9223372036854775807 then (fraction_Parse.j0 k t687 t699 ((⟨#[49]⟩ : ByteArray) ++ t701) t696 t698) else (none))) = some (r1, r2, r3) := H
                      have A38 := Aside0.mk A380
                      clear A380
                      replace H := Option.bind_eq_some_iff.mp H
                      obtain ⟨t701, A390, H⟩ := H
                      replace H : (if 1 + t701.size ≤ 9223372036854775807 then (fraction_Parse.j0 k t687 t699 ((⟨#[49]⟩ : ByteArray) ++ t701) t696 t698) else (none)) = some (r1, r2, r3) := H
                      have A39 := Aside0.mk A390
                      clear A390
                      by_cases c40 : 1 + t701.size ≤ 9223372036854775807
                      · rw [if_pos c40] at H
                        have c40b0 := eq_true c40
                        have c40b1 : decide (1 + t701.size ≤ 9223372036854775807) = true := decide_eq_true c40
                        try have c40b2 : (9223372036854775807 < 1 + t701.size) = False := eq_false (Nat.not_lt.2 c40)
                        have H' := Aside0.mk H
                        clear H
                        have p15 : 0 ≤ (t688 : Int) := of_decide_eq_true (by first | (with_reducible assumption) | assumption)
                        have q15 : t688 < (t686.size : Int) := of_decide_eq_true (by first | (with_reducible assumption) | assumption)
                        have hx15 := bt_at t686 t688
                        replace p15 := eq_true p15
                        replace q15 := eq_true q15
                        try go_wp2_with (first | ((with_reducible refine gate_callee (f := 158) rfl ?_); refine goesL_ (some 25) rfl rfl Tryz.func158 (by kernel_rfl) rfl #[.string (t686.extract 0 (t688 : Int).toNat)] rfl (by (try simp only [List.map_toArray, List.map_cons, List.map_nil]); first | done | rfl | (simp only [List.length_drop, List.length_take]; rfl)) ?_; (with_reducible refine (fraction_digits.calls k (t686.extract 0 (t688 : Int).toNat) t695 t696 _ A28.out).mono ?_); rintro e w41 ⟨rfl, hb⟩; refine ⟨_, rfl, ?_⟩; have n0_ := Aside0.mk (blk_below (g := gb685) (o := .cells #[.string (⟨#[]⟩ : ByteArray), .string (⟨#[]⟩ : ByteArray)] 38 (0, 0)) (by (with_reducible repeat (first | refine blk_drewN ?_ _ | refine blk_drew ?_ | refine blk_alloc ?_ _)); exact BK685.out) hb); have n1_ := Aside0.mk (below_step (by repeat (first | (with_reducible first | exact HB.out | apply below_alloc | apply pw_below_drewN | apply below_drew1 | refine below_set ?_ GE685.out) | exact HB.out)) hb); clear BK685; clear HB; have BK685 := n0_; have HB := n1_; clear n0_ n1_; (try clear hb); (try clear hb2); (try clear hk); (try clear hi)) | ((with_reducible refine gate_callee (f := 158) rfl ?_); refine goesL_ (some 33) rfl rfl Tryz.func158 (by kernel_rfl) rfl #[.string (t686.extract ((ji29) : Int).toNat t686.size)] rfl (by (try simp only [List.map_toArray, List.map_cons, List.map_nil]); first | done | (simp only [hji29]; rfl) | rfl | (simp only [List.length_drop, List.length_take]; rfl)) ?_; (with_reducible refine (fraction_digits.calls k (t686.extract ((ji29) : Int).toNat t686.size) t697 t698 _ A32.out).mono ?_); rintro e w42 ⟨rfl, hb⟩; refine ⟨_, rfl, ?_⟩; have n0_ := Aside0.mk (blk_below (g := gb685) (o := .cells #[.string (⟨#[]⟩ : ByteArray), .string (⟨#[]⟩ : ByteArray)] 38 (0, 0)) (by (with_reducible repeat (first | refine blk_drewN ?_ _ | refine blk_drew ?_ | refine blk_alloc ?_ _)); exact BK685.out) hb); have n1_ := Aside0.mk (below_step (by repeat (first | (with_reducible first | exact HB.out | apply below_alloc | apply pw_below_drewN | apply below_drew1 | refine below_set ?_ GE685.out) | exact HB.out)) hb); clear BK685; clear HB; have BK685 := n0_; have HB := n1_; clear n0_ n1_; (try clear hb); (try clear hb2); (try clear hk); (try clear hi)))
                        have n0_ := Aside0.mk (blk_drew BK685.out)
                        have n1_ := Aside0.mk (below_drew1 HB.out)
                        clear BK685
                        clear HB
                        have BK685 := n0_
                        have HB := n1_
                        clear n0_ n1_
                        refine start_ (n := 13) (S := fun w' => True) (ds := []) #[false, false, false, false, false, false, false, false, false, false, false, false, false] (by kernel_rfl) rfl rfl trivial (fun hHeld => ?_); refine with_tabW fraction_Parse.tab9 fraction_Parse.bits9 (fun HT_ HW_ => ?_)
                        generalize w42.drew = w43 at BK685 HB hHeld ⊢
                        refine pure_ (i := 0) (N := some 37) (v := ?_) (a' := ?_) #[true, false, false, false, false, false, false, false, false, false, false, false, false] rfl rfl (any_of HT_.out (by kernel_rfl)) (fun _ _ _ h => h) (Or.inl ⟨by rfl, ?_⟩) ?_ ?_
                        rotate_left
                        · intro w'
                          go_simp
                          with_reducible rfl
                        rotate_left
                        · simp only [Act.put, List.setIfInBounds_toArray, List.set_cons_zero, List.set_cons_succ, i64_w, i32_w]
                          rfl
                        refine pure_ (i := 1) (N := some 38) (v := ?_) (a' := ?_) #[true, true, false, false, false, false, false, false, false, false, false, false, false] rfl rfl (any_of HT_.out (by kernel_rfl)) (fun _ _ _ h => h) (Or.inl ⟨by rfl, ?_⟩) ?_ ?_
                        rotate_left
                        · intro w'
                          go_simp
                          with_reducible rfl
                        rotate_left
                        · simp only [Act.put, List.setIfInBounds_toArray, List.set_cons_zero, List.set_cons_succ, i64_w, i32_w]
                          rfl
                        refine pure_ (i := 2) (N := some 39) (v := ?_) (a' := ?_) #[true, true, true, false, false, false, false, false, false, false, false, false, false] rfl rfl (any_of HT_.out (by kernel_rfl)) (fun _ _ _ h => h) (Or.inl ⟨by rfl, ?_⟩) ?_ ?_
                        rotate_left
                        · intro w'
                          go_simp
                          with_reducible rfl
                        rotate_left
                        · simp only [Act.put, List.setIfInBounds_toArray, List.set_cons_zero, List.set_cons_succ, i64_w, i32_w]
                          rfl
                        refine pure_ (i := 3) (N := some 40) (v := ?_) (a' := ?_) #[true, true, true, true, false, false, false, false, false, false, false, false, false] rfl rfl (any_of HT_.out (by kernel_rfl)) (fun _ _ _ h => h) (Or.inl ⟨by rfl, ?_⟩) ?_ ?_
                        rotate_left
                        · intro w'
                          go_simp
                          with_reducible rfl
                        rotate_left
                        · simp only [Act.put, List.setIfInBounds_toArray, List.set_cons_zero, List.set_cons_succ, i64_w, i32_w]
                          rfl
                        refine pure_ (i := 4) (N := some 41) (v := ?_) (a' := ?_) #[true, true, true, true, true, false, false, false, false, false, false, false, false] rfl rfl (any_of HT_.out (by kernel_rfl)) (fun _ _ _ h => h) (Or.inl ⟨by rfl, ?_⟩) ?_ ?_
                        rotate_left
                        · intro w'
                          go_simp
                          with_reducible rfl
                        rotate_left
                        · simp only [Act.put, List.setIfInBounds_toArray, List.set_cons_zero, List.set_cons_succ, i64_w, i32_w]
                          rfl
                        refine pure_ (i := 5) (N := some 42) (v := ?_) (a' := ?_) #[true, true, true, true, true, true, false, false, false, false, false, false, false] rfl rfl (any_of HT_.out (by kernel_rfl)) (fun _ _ _ h => h) (Or.inl ⟨by rfl, ?_⟩) ?_ ?_
                        rotate_left
                        · intro w'
                          go_simp
                          with_reducible rfl
                        rotate_left
                        · simp only [Act.put, List.setIfInBounds_toArray, List.set_cons_zero, List.set_cons_succ, i64_w, i32_w]
                          rfl
                        refine pure_ (i := 6) (N := some 43) (v := ?_) (a' := ?_) #[true, true, true, true, true, true, true, false, false, false, false, false, false] rfl rfl (any_of HT_.out (by kernel_rfl)) (fun _ _ _ h => h) (Or.inl ⟨by rfl, ?_⟩) ?_ ?_
                        rotate_left
                        · intro w'
                          go_simp
                          with_reducible rfl
                        rotate_left
                        · simp only [Act.put, List.setIfInBounds_toArray, List.set_cons_zero, List.set_cons_succ, i64_w, i32_w]
                          rfl
                        refine pure_ (i := 7) (N := some 44) (v := ?_) (a' := ?_) #[true, true, true, true, true, true, true, true, false, false, false, false, false] rfl rfl (any_of HT_.out (by kernel_rfl)) (fun _ _ _ h => h) (Or.inl ⟨by rfl, ?_⟩) ?_ ?_
                        rotate_left
                        · intro w'
                          go_simp
                          with_reducible rfl
                        rotate_left
                        · simp only [Act.put, List.setIfInBounds_toArray, List.set_cons_zero, List.set_cons_succ, i64_w, i32_w]
                          rfl
                        refine one_ (i := 8) (N := some 45) #[true, true, true, true, true, true, true, true, true, false, false, false, false] rfl rfl (one_of HT_.out (by kernel_rfl)) (by decide) (fun K hK => ?_)
                        refine goes_ Tryz.func158 (by kernel_rfl) rfl #[.string ((t686.extract 0 (t688 : Int).toNat) ++ (t686.extract ((ji29) : Int).toNat t686.size))] (by rfl) rfl rfl (by (try simp only [List.map_toArray, List.map_cons, List.map_nil]); first | done | (simp only [hji29]; rfl) | rfl | (simp only [List.length_drop, List.length_take]; rfl)) ?_
                        with_reducible refine (fraction_digits.calls k ((t686.extract 0 (t688 : Int).toNat) ++ (t686.extract ((ji29) : Int).toNat t686.size)) t699 t700 _ A38.out).mono ?_
                        rintro e w44 ⟨rfl, hb⟩
                        refine ⟨_, rfl, ?_⟩
                        have n0_ := Aside0.mk (blk_below (g := gb685) (o := .cells #[.string (⟨#[]⟩ : ByteArray), .string (⟨#[]⟩ : ByteArray)] 38 (0, 0)) (by (with_reducible repeat (first | refine blk_drewN ?_ _ | refine blk_drew ?_ | refine blk_alloc ?_ _)); exact BK685.out) hb)
                        have n1_ := Aside0.mk (below_step (by repeat (first | (with_reducible first | exact HB.out | apply below_alloc | apply pw_below_drewN | apply below_drew1 | refine below_set ?_ GE685.out) | exact HB.out)) hb)
                        clear BK685
                        clear HB
                        have BK685 := n0_
                        have HB := n1_
                        clear n0_ n1_
                        (try clear hb)
                        (try clear hb2)
                        (try clear hk)
                        (try clear hi)
                        refine hK.out _ _ trivial (fun hHeld => ?_)
                        clear hK K
                        refine norm_ (a' := ?_) ?_ ?_
                        rotate_left
                        · show Act.put _ (some 45) _ = _
                          simp only [Act.put, List.setIfInBounds_toArray, List.set_cons_zero, List.set_cons_succ, i64_w, i32_w]
                          rfl
                        refine pure_ (i := 9) (N := some 36) (v := ?_) (a' := ?_) #[true, true, true, true, true, true, true, true, true, true, false, false, false] rfl rfl (any_of HT_.out (by kernel_rfl)) (fun _ _ _ h => h) (Or.inl ⟨by rfl, ?_⟩) ?_ ?_
                        rotate_left
                        · intro w'
                          go_simp
                          with_reducible rfl
                        rotate_left
                        · simp only [Act.put, List.setIfInBounds_toArray, List.set_cons_zero, List.set_cons_succ, i64_w, i32_w]
                          rfl
                        refine pure_ (i := 10) (N := some 46) (v := ?_) (a' := ?_) #[true, true, true, true, true, true, true, true, true, true, true, false, false] rfl rfl (any_of HT_.out (by kernel_rfl)) (fun _ _ _ h => h) (Or.inl ⟨by rfl, ?_⟩) ?_ ?_
                        rotate_left
                        · intro w'
                          go_simp
                          with_reducible rfl
                        rotate_left
                        · simp only [Act.put, List.setIfInBounds_toArray, List.set_cons_zero, List.set_cons_succ, i64_w, i32_w]
                          rfl
                        refine pure_ (i := 11) (N := some 47) (v := ?_) (a' := ?_) #[true, true, true, true, true, true, true, true, true, true, true, true, false] rfl rfl (any_of HT_.out (by kernel_rfl)) (fun _ _ _ h => h) (Or.inl ⟨by rfl, ?_⟩) ?_ ?_
                        rotate_left
                        · intro w'
                          go_simp
                          with_reducible rfl
                        rotate_left
                        · simp only [Act.put, List.setIfInBounds_toArray, List.set_cons_zero, List.set_cons_succ, i64_w, i32_w]
                          rfl
                        refine pure_ (i := 12) (N := some 5) (v := ?_) (a' := ?_) #[true, true, true, true, true, true, true, true, true, true, true, true, true] rfl rfl (any_of HT_.out (by kernel_rfl)) (fun _ _ _ h => h) (Or.inl ⟨by rfl, ?_⟩) ?_ ?_
                        rotate_left
                        · intro w'
                          go_simp
                          with_reducible rfl
                        rotate_left
                        · simp only [Act.put, List.setIfInBounds_toArray, List.set_cons_zero, List.set_cons_succ, i64_w, i32_w]
                          rfl
                        refine done_ (done_of HT_.out (by kernel_rfl)) ?_
                        try go_wp2_with (first | ((with_reducible refine gate_callee (f := 134) rfl ?_); refine goesL_ (some 53) rfl rfl Tryz.func134 (by kernel_rfl) rfl #[.string (⟨#[48]⟩ : ByteArray), .int .i64 (wrap64 ((wrap64 ((t686.size : Int) - t688)) - 1))] rfl (by (try simp only [List.map_toArray, List.map_cons, List.map_nil]); first | done | rfl | (simp only [List.length_drop, List.length_take]; rfl)) ?_; (with_reducible refine (strings_Repeat.calls (⟨#[48]⟩ : ByteArray) (wrap64 ((wrap64 ((t686.size : Int) - t688)) - 1)) t701 _ A39.out).mono ?_); rintro e w45 ⟨rfl, hb⟩; refine ⟨_, rfl, ?_⟩; have n0_ := Aside0.mk (blk_below (g := gb685) (o := .cells #[.string (⟨#[]⟩ : ByteArray), .string (⟨#[]⟩ : ByteArray)] 38 (0, 0)) (by (with_reducible repeat (first | refine blk_drewN ?_ _ | refine blk_drew ?_ | refine blk_alloc ?_ _)); exact BK685.out) hb); have n1_ := Aside0.mk (below_step (by repeat (first | (with_reducible first | exact HB.out | apply below_alloc | apply pw_below_drewN | apply below_drew1 | refine below_set ?_ GE685.out) | exact HB.out)) hb); clear BK685; clear HB; have BK685 := n0_; have HB := n1_; clear n0_ n1_; (try clear hb); (try clear hb2); (try clear hk); (try clear hi)))
                        go_meet
                        case rel => exact ⟨_, (t699), ((⟨#[49]⟩ : ByteArray) ++ t701), (t696), (t698), (by first | rfl | (simp; done) | (simp [*]; done)), (by first | rfl | (simp; done) | (simp [*]; done)), (by first | rfl | (simp; done) | (simp [*]; done)), (by first | rfl | (simp; done) | (simp [*]; done)), H', ⟨by first | omega | exact Nat.le_refl _⟩, ⟨by (with_reducible repeat (first | refine blk_drewN ?_ _ | refine blk_drew ?_ | refine blk_alloc ?_ _)); exact BK685.out⟩, ⟨by repeat (first | (with_reducible first | exact HB.out | apply below_alloc | apply pw_below_drewN | apply below_drew1 | refine below_set ?_ GE685.out) | exact HB.out)⟩⟩
                      · rw [if_neg c40] at H
                        exact absurd H (by simp)
                    · rw [if_neg c37] at H
                      exact absurd H (by simp)
                  · rw [if_neg c31] at H
                    exact absurd H (by simp)
                · rw [if_neg c30] at H
                  exact absurd H (by simp)
              · rw [if_neg c27] at H
                exact absurd H (by simp)
          · rw [if_neg c14] at H
            exact absurd H (by simp)
        · rw [if_neg c13] at H
          exact absurd H (by simp)
    case rest =>
      clear HC7
      try clear c1
      try clear p1
      try clear q1
      try clear hx1
      try clear c2
      try clear c2b0
      try clear c2b1
      try clear p2
      try clear c3
      try clear c4
      try clear p6
      try clear c9
      try clear c10
      try clear c10b0
      try clear c13
      try clear c13b0
      try clear c14
      try clear c14b0
      try clear c15
      try clear p15
      try clear q15
      try clear hx15
      try clear c16
      try clear c16b0
      try clear c16b1
      try clear c17
      try clear c17b0
      try clear c18
      try clear c18b0
      try clear c18b1
      try clear c21
      try clear c21b0
      try clear c21b1
      try clear c22
      try clear c22b0
      try clear c22b1
      try clear c26
      try clear c26b0
      try clear c27
      try clear c27b0
      try clear c27b1
      try clear c30
      try clear c30b0
      try clear c30b1
      try clear c31
      try clear c31b0
      try clear c31b1
      try clear c33
      try clear c33b0
      try clear c34
      try clear c34b0
      try clear c35
      try clear c35b0
      try clear c36
      try clear c36b0
      try clear c37
      try clear c37b0
      try clear c37b1
      try clear c37b2
      try clear c40
      try clear c40b0
      try clear c40b1
      try clear c40b2
      try clear hcz4_0
      try clear hcz4_1
      try clear hfz4_0
      try clear hfz4_1
      try clear p15
      try clear q15
      obtain ⟨kq, x5_6, x6_6, x7_6, x8_6, rfl, rfl, rfl, rfl, HA, HJ6, BK685, HB⟩ := hcut
      cases kq with
      | zero => exact absurd HA.out (by simp [fraction_Parse.j0])
      | succ kj6 =>
        have H := HA.out
        clear HA
        simp only [fraction_Parse.j0] at H
        have HC46 := Aside0.mk H
        clear H
        go_upto_region 16 with (fail)
        go_cut [83] (fun v83 wc => ∃ (kq : Nat) (x83_45 : Bool), v83 = .bool x83_45 ∧ Aside0 (fraction_Parse.j1 kq t687 x5_6 x6_6 x83_45 = some (r1, r2, r3)) ∧ Aside0 (kq ≤ kj6) ∧ Aside0 (wc.heap[gb685]? = some (.cells #[.string (⟨#[]⟩ : ByteArray), .string (⟨#[]⟩ : ByteArray)] 38 (0, 0))) ∧ Aside0 (Below w.heap.size w wc))
        case first =>
          have H := HC46.out
          clear HC46
          by_cases c47 : x7_6 = true
          · subst c47
            have H1 : (fraction_Parse.j1 kj6 t687 x5_6 x6_6 (!x8_6)) = some (r1, r2, r3) := by rw [if_pos rfl] at H; exact H
            clear H
            have H := H1
            clear H1
            have H' := Aside0.mk H
            clear H
            go_wp2
            go_meet
            case rel => exact ⟨_, (!x8_6), (by first | rfl | (simp; done) | (simp [*]; done)), H', ⟨by have := HJ6.out; first | omega | exact Nat.le_refl _⟩, ⟨by (with_reducible repeat (first | refine blk_drewN ?_ _ | refine blk_drew ?_ | refine blk_alloc ?_ _)); exact BK685.out⟩, ⟨by repeat (first | (with_reducible first | exact HB.out | apply below_alloc | apply pw_below_drewN | apply below_drew1 | refine below_set ?_ GE685.out) | exact HB.out)⟩⟩
          · replace c47 := Bool.eq_false_iff.mpr c47
            subst c47
            have H1 : (fraction_Parse.j1 kj6 t687 x5_6 x6_6 true) = some (r1, r2, r3) := by rw [if_neg (show ¬ (false = true) by decide)] at H; exact H
            clear H
            have H := H1
            clear H1
            have H' := Aside0.mk H
            clear H
            go_wp2
            go_meet
            case rel => exact ⟨_, (true), (by first | rfl | (simp; done) | (simp [*]; done)), H', ⟨by have := HJ6.out; first | omega | exact Nat.le_refl _⟩, ⟨by (with_reducible repeat (first | refine blk_drewN ?_ _ | refine blk_drew ?_ | refine blk_alloc ?_ _)); exact BK685.out⟩, ⟨by repeat (first | (with_reducible first | exact HB.out | apply below_alloc | apply pw_below_drewN | apply below_drew1 | refine below_set ?_ GE685.out) | exact HB.out)⟩⟩
        case rest =>
          clear HC46
          try clear c1
          try clear p1
          try clear q1
          try clear hx1
          try clear c2
          try clear c2b0
          try clear c2b1
          try clear p2
          try clear c3
          try clear c4
          try clear p6
          try clear c9
          try clear c10
          try clear c10b0
          try clear c13
          try clear c13b0
          try clear c14
          try clear c14b0
          try clear c15
          try clear p15
          try clear q15
          try clear hx15
          try clear c16
          try clear c16b0
          try clear c16b1
          try clear c17
          try clear c17b0
          try clear c18
          try clear c18b0
          try clear c18b1
          try clear c21
          try clear c21b0
          try clear c21b1
          try clear c22
          try clear c22b0
          try clear c22b1
          try clear c26
          try clear c26b0
          try clear c27
          try clear c27b0
          try clear c27b1
          try clear c30
          try clear c30b0
          try clear c30b1
          try clear c31
          try clear c31b0
          try clear c31b1
          try clear c33
          try clear c33b0
          try clear c34
          try clear c34b0
          try clear c35
          try clear c35b0
          try clear c36
          try clear c36b0
          try clear c37
          try clear c37b0
          try clear c37b1
          try clear c37b2
          try clear c40
          try clear c40b0
          try clear c40b1
          try clear c40b2
          try clear c47
          try clear hcz4_0
          try clear hcz4_1
          try clear hfz4_0
          try clear hfz4_1
          try clear p1
          try clear p15
          try clear p2
          try clear p6
          try clear q1
          try clear q15
          obtain ⟨kq, x83_45, rfl, HA, HJ45, BK685, HB⟩ := hcut
          cases kq with
          | zero => exact absurd HA.out (by simp [fraction_Parse.j1])
          | succ kj45 =>
            have H := HA.out
            clear HA
            simp only [fraction_Parse.j1] at H
            by_cases c48 : x83_45 = true
            · subst c48
              have H1 : (some ((⟨#[]⟩ : ByteArray), (⟨#[]⟩ : ByteArray), 15)) = some (r1, r2, r3) := by rw [if_pos rfl] at H; exact H
              clear H
              have H := H1
              clear H1
              simp only [Option.some.injEq, Prod.mk.injEq] at H
              obtain ⟨rfl, rfl, rfl⟩ := H
              have hcz49_0 : wc.cell? ⟨gb685, 0, none⟩ = some (.string (⟨#[]⟩ : ByteArray)) := (blk_cell BK685.out 0).trans rfl
              have hcz49_1 : wc.cell? ⟨gb685, 1, none⟩ = some (.string (⟨#[]⟩ : ByteArray)) := (blk_cell BK685.out 1).trans rfl
              have hfz49_0 := blk_frozen BK685.out 0
              have hfz49_1 := blk_frozen BK685.out 1
              go_wp2
              refine bodyPost_ret (results_ct rfl _ _ gb685 38 #[.string (⟨#[]⟩ : ByteArray), .string (⟨#[]⟩ : ByteArray)] (0, 0) _ rfl (by (with_reducible repeat (first | refine blk_drewN ?_ _ | refine blk_drew ?_ | refine blk_alloc ?_ _)); refine blk_put (cs := #[.string (⟨#[]⟩ : ByteArray), .string (⟨#[]⟩ : ByteArray)]) ?_ 1 _ rfl; (with_reducible repeat (first | refine blk_drewN ?_ _ | refine blk_drew ?_ | refine blk_alloc ?_ _)); refine blk_put (cs := #[.string (⟨#[]⟩ : ByteArray), .string (⟨#[]⟩ : ByteArray)]) ?_ 0 _ rfl; (with_reducible repeat (first | refine blk_drewN ?_ _ | refine blk_drew ?_ | refine blk_alloc ?_ _)); exact BK685.out) Tryz.underlying38 rfl (by kernel_rfl)) rfl ?_
              exact ⟨by first | rfl | (simp [errW_none, errW_some] <;> rfl) | (simp [*, errW_none, errW_some] <;> rfl), by repeat (first | (with_reducible first | exact HB.out | apply below_alloc | apply pw_below_drewN | apply below_drew1 | refine below_set ?_ GE685.out) | exact HB.out)⟩
            · replace c48 := Bool.eq_false_iff.mpr c48
              subst c48
              have H1 : (if x6_6.toList = ([48] : List UInt8) then (some ((⟨#[]⟩ : ByteArray), (⟨#[]⟩ : ByteArray), 17)) else (if t687 = true then ((whole_Neg.f x5_6).bind fun t702 => ((fraction_lowest.f kj45 t702 x6_6).bind fun bt703 => (some (bt703.1, bt703.2, 0)))) else ((fraction_lowest.f kj45 x5_6 x6_6).bind fun bt705 => (some (bt705.1, bt705.2, 0))))) = some (r1, r2, r3) := by rw [if_neg (show ¬ (false = true) by decide)] at H; exact H
              clear H
              have H := H1
              clear H1
              by_cases c50 : x6_6.toList = ([48] : List UInt8)
              · rw [if_pos c50] at H
                have c50b0 : (x6_6.toList == ([48] : List UInt8)) = true := beq_iff_eq.mpr c50
                have c50b1 : (x6_6.toList != ([48] : List UInt8)) = false := bne_eq_false_iff_eq.mpr c50
                clear c50
                simp only [Option.some.injEq, Prod.mk.injEq] at H
                obtain ⟨rfl, rfl, rfl⟩ := H
                have hcz51_0 : wc.cell? ⟨gb685, 0, none⟩ = some (.string (⟨#[]⟩ : ByteArray)) := (blk_cell BK685.out 0).trans rfl
                have hcz51_1 : wc.cell? ⟨gb685, 1, none⟩ = some (.string (⟨#[]⟩ : ByteArray)) := (blk_cell BK685.out 1).trans rfl
                have hfz51_0 := blk_frozen BK685.out 0
                have hfz51_1 := blk_frozen BK685.out 1
                go_wp2
                refine bodyPost_ret (results_ct rfl _ _ gb685 38 #[.string (⟨#[]⟩ : ByteArray), .string (⟨#[]⟩ : ByteArray)] (0, 0) _ rfl (by (with_reducible repeat (first | refine blk_drewN ?_ _ | refine blk_drew ?_ | refine blk_alloc ?_ _)); refine blk_put (cs := #[.string (⟨#[]⟩ : ByteArray), .string (⟨#[]⟩ : ByteArray)]) ?_ 1 _ rfl; (with_reducible repeat (first | refine blk_drewN ?_ _ | refine blk_drew ?_ | refine blk_alloc ?_ _)); refine blk_put (cs := #[.string (⟨#[]⟩ : ByteArray), .string (⟨#[]⟩ : ByteArray)]) ?_ 0 _ rfl; (with_reducible repeat (first | refine blk_drewN ?_ _ | refine blk_drew ?_ | refine blk_alloc ?_ _)); exact BK685.out) Tryz.underlying38 rfl (by kernel_rfl)) rfl ?_
                exact ⟨by first | rfl | (simp [errW_none, errW_some] <;> rfl) | (simp [*, errW_none, errW_some] <;> rfl), by repeat (first | (with_reducible first | exact HB.out | apply below_alloc | apply pw_below_drewN | apply below_drew1 | refine below_set ?_ GE685.out) | exact HB.out)⟩
              · rw [if_neg c50] at H
                have c50b0 : (x6_6.toList == ([48] : List UInt8)) = false := beq_eq_false_iff_ne.mpr c50
                have c50b1 : (x6_6.toList != ([48] : List UInt8)) = true := bne_iff_ne.mpr c50
                by_cases c52 : t687 = true
                · subst c52
                  have H1 : ((whole_Neg.f x5_6).bind fun t702 => ((fraction_lowest.f kj45 t702 x6_6).bind fun bt703 => (some (bt703.1, bt703.2, 0)))) = some (r1, r2, r3) := by rw [if_pos rfl] at H; exact H
                  clear H
                  have H := H1
                  clear H1
                  replace H := Option.bind_eq_some_iff.mp H
                  obtain ⟨t702, A530, H⟩ := H
                  replace H : ((fraction_lowest.f kj45 t702 x6_6).bind fun bt703 => (some (bt703.1, bt703.2, 0))) = some (r1, r2, r3) := H
                  have A53 := Aside0.mk A530
                  clear A530
                  replace H := Option.bind_eq_some_iff.mp H
                  obtain ⟨⟨t703, t704⟩, A540, H⟩ := H
                  replace H : (some (t703, t704, 0)) = some (r1, r2, r3) := H
                  have A54 := Aside0.mk A540
                  clear A540
                  simp only [Option.some.injEq, Prod.mk.injEq] at H
                  obtain ⟨rfl, rfl, rfl⟩ := H
                  go_wp2_with (first | ((with_reducible refine gate_callee (f := 159) rfl ?_); refine goesL_ (some 98) rfl rfl Tryz.func159 (by kernel_rfl) rfl #[.string x5_6] rfl (by (try simp only [List.map_toArray, List.map_cons, List.map_nil]); first | done | rfl | (simp only [List.length_drop, List.length_take]; rfl)) ?_; (with_reducible refine (whole_Neg.calls x5_6 t702 _ A53.out).mono ?_); rintro e w' ⟨rfl, ⟨nd, rfl⟩⟩; refine ⟨_, rfl, ?_⟩; (try (rw [drewN_self wc]; generalize hq_ : World.drewN wc _ = wc; have n0_ : Aside0 (wc.heap[gb685]? = some (.cells #[.string (⟨#[]⟩ : ByteArray), .string (⟨#[]⟩ : ByteArray)] 38 (0, 0))) := ⟨by rw [← hq_]; exact (by (with_reducible repeat (first | refine blk_drewN ?_ _ | refine blk_drew ?_ | refine blk_alloc ?_ _)); exact BK685.out)⟩; have n1_ : Aside0 (Below w.heap.size w wc) := ⟨by rw [← hq_]; exact (by repeat (first | (with_reducible first | exact HB.out | apply below_alloc | apply pw_below_drewN | apply below_drew1 | refine below_set ?_ GE685.out) | exact HB.out))⟩; clear BK685 HB hq_; have BK685 := n0_; have HB := n1_; clear n0_ n1_))) | ((with_reducible refine gate_callee (f := 160) rfl ?_); refine goesL_ (some 101) rfl rfl Tryz.func160 (by kernel_rfl) rfl #[.string t702, .string x6_6] rfl (by (try simp only [List.map_toArray, List.map_cons, List.map_nil]); first | done | rfl | (simp only [List.length_drop, List.length_take]; rfl)) ?_; (with_reducible refine (fraction_lowest.calls kj45 t702 x6_6 t703 t704 _ ?side1 A54.out).mono ?_); (case side1 => refine TabW.below hT ?_; repeat (first | (with_reducible first | exact HB.out | apply below_alloc | apply pw_below_drewN | apply below_drew1 | refine below_set ?_ GE685.out) | exact HB.out)); rintro e w55 ⟨rfl, hb⟩; refine ⟨_, rfl, ?_⟩; have n0_ := Aside0.mk (blk_below (g := gb685) (o := .cells #[.string (⟨#[]⟩ : ByteArray), .string (⟨#[]⟩ : ByteArray)] 38 (0, 0)) (by (with_reducible repeat (first | refine blk_drewN ?_ _ | refine blk_drew ?_ | refine blk_alloc ?_ _)); exact BK685.out) hb); have n1_ := Aside0.mk (below_step (by repeat (first | (with_reducible first | exact HB.out | apply below_alloc | apply pw_below_drewN | apply below_drew1 | refine below_set ?_ GE685.out) | exact HB.out)) hb); clear BK685; clear HB; have BK685 := n0_; have HB := n1_; clear n0_ n1_; (try clear hb); (try clear hb2); (try clear hk); (try clear hi); have hcz56_0 : w55.cell? ⟨gb685, 0, none⟩ = some (.string (⟨#[]⟩ : ByteArray)) := (blk_cell BK685.out 0).trans rfl; have hcz56_1 : w55.cell? ⟨gb685, 1, none⟩ = some (.string (⟨#[]⟩ : ByteArray)) := (blk_cell BK685.out 1).trans rfl; have hfz56_0 := blk_frozen BK685.out 0; have hfz56_1 := blk_frozen BK685.out 1))
                  refine bodyPost_ret (results_ct rfl _ _ gb685 38 #[.string t703, .string t704] (0, 0) _ rfl (by (with_reducible repeat (first | refine blk_drewN ?_ _ | refine blk_drew ?_ | refine blk_alloc ?_ _)); refine blk_put (cs := #[.string t703, .string (⟨#[]⟩ : ByteArray)]) ?_ 1 _ rfl; (with_reducible repeat (first | refine blk_drewN ?_ _ | refine blk_drew ?_ | refine blk_alloc ?_ _)); refine blk_put (cs := #[.string (⟨#[]⟩ : ByteArray), .string (⟨#[]⟩ : ByteArray)]) ?_ 0 _ rfl; (with_reducible repeat (first | refine blk_drewN ?_ _ | refine blk_drew ?_ | refine blk_alloc ?_ _)); exact BK685.out) Tryz.underlying38 rfl (by kernel_rfl)) rfl ?_
                  exact ⟨by first | rfl | (simp [errW_none, errW_some] <;> rfl) | (simp [*, errW_none, errW_some] <;> rfl), by repeat (first | (with_reducible first | exact HB.out | apply below_alloc | apply pw_below_drewN | apply below_drew1 | refine below_set ?_ GE685.out) | exact HB.out)⟩
                · replace c52 := Bool.eq_false_iff.mpr c52
                  subst c52
                  have H1 : ((fraction_lowest.f kj45 x5_6 x6_6).bind fun bt705 => (some (bt705.1, bt705.2, 0))) = some (r1, r2, r3) := by rw [if_neg (show ¬ (false = true) by decide)] at H; exact H
                  clear H
                  have H := H1
                  clear H1
                  replace H := Option.bind_eq_some_iff.mp H
                  obtain ⟨⟨t705, t706⟩, A570, H⟩ := H
                  replace H : (some (t705, t706, 0)) = some (r1, r2, r3) := H
                  have A57 := Aside0.mk A570
                  clear A570
                  simp only [Option.some.injEq, Prod.mk.injEq] at H
                  obtain ⟨rfl, rfl, rfl⟩ := H
                  go_wp2_with (first | ((with_reducible refine gate_callee (f := 160) rfl ?_); refine goesL_ (some 101) rfl rfl Tryz.func160 (by kernel_rfl) rfl #[.string x5_6, .string x6_6] rfl (by (try simp only [List.map_toArray, List.map_cons, List.map_nil]); first | done | rfl | (simp only [List.length_drop, List.length_take]; rfl)) ?_; (with_reducible refine (fraction_lowest.calls kj45 x5_6 x6_6 t705 t706 _ ?side1 A57.out).mono ?_); (case side1 => refine TabW.below hT ?_; repeat (first | (with_reducible first | exact HB.out | apply below_alloc | apply pw_below_drewN | apply below_drew1 | refine below_set ?_ GE685.out) | exact HB.out)); rintro e w58 ⟨rfl, hb⟩; refine ⟨_, rfl, ?_⟩; have n0_ := Aside0.mk (blk_below (g := gb685) (o := .cells #[.string (⟨#[]⟩ : ByteArray), .string (⟨#[]⟩ : ByteArray)] 38 (0, 0)) (by (with_reducible repeat (first | refine blk_drewN ?_ _ | refine blk_drew ?_ | refine blk_alloc ?_ _)); exact BK685.out) hb); have n1_ := Aside0.mk (below_step (by repeat (first | (with_reducible first | exact HB.out | apply below_alloc | apply pw_below_drewN | apply below_drew1 | refine below_set ?_ GE685.out) | exact HB.out)) hb); clear BK685; clear HB; have BK685 := n0_; have HB := n1_; clear n0_ n1_; (try clear hb); (try clear hb2); (try clear hk); (try clear hi); have hcz59_0 : w58.cell? ⟨gb685, 0, none⟩ = some (.string (⟨#[]⟩ : ByteArray)) := (blk_cell BK685.out 0).trans rfl; have hcz59_1 : w58.cell? ⟨gb685, 1, none⟩ = some (.string (⟨#[]⟩ : ByteArray)) := (blk_cell BK685.out 1).trans rfl; have hfz59_0 := blk_frozen BK685.out 0; have hfz59_1 := blk_frozen BK685.out 1))
                  refine bodyPost_ret (results_ct rfl _ _ gb685 38 #[.string t705, .string t706] (0, 0) _ rfl (by (with_reducible repeat (first | refine blk_drewN ?_ _ | refine blk_drew ?_ | refine blk_alloc ?_ _)); refine blk_put (cs := #[.string t705, .string (⟨#[]⟩ : ByteArray)]) ?_ 1 _ rfl; (with_reducible repeat (first | refine blk_drewN ?_ _ | refine blk_drew ?_ | refine blk_alloc ?_ _)); refine blk_put (cs := #[.string (⟨#[]⟩ : ByteArray), .string (⟨#[]⟩ : ByteArray)]) ?_ 0 _ rfl; (with_reducible repeat (first | refine blk_drewN ?_ _ | refine blk_drew ?_ | refine blk_alloc ?_ _)); exact BK685.out) Tryz.underlying38 rfl (by kernel_rfl)) rfl ?_
                  exact ⟨by first | rfl | (simp [errW_none, errW_some] <;> rfl) | (simp [*, errW_none, errW_some] <;> rfl), by repeat (first | (with_reducible first | exact HB.out | apply below_alloc | apply pw_below_drewN | apply below_drew1 | refine below_set ?_ GE685.out) | exact HB.out)⟩
end Go.Proofs.YtccebdpjdpjgnaaGreatDoor.P
