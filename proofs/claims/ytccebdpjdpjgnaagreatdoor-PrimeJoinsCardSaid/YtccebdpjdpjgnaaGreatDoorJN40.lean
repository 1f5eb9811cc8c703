/-
words of the walks
-/
import Derived.Test.YtccebdpjdpjgnaaGreatDoorJN39
set_option linter.unusedVariables false
set_option linter.unusedSimpArgs false
namespace Go.Proofs.YtccebdpjdpjgnaaGreatDoor.P
open Go.RowKit Go.Proofs.YtccebdpjdpjgnaaGreatDoorW.PrintWords Go.Proofs.YtccebdpjdpjgnaaGreatDoorW.PrintLast Go.Proofs.YtccebdpjdpjgnaaGreatDoorW.PrintMore
attribute [local go_sem] max2_int min2_int max_two min_two max_three min_three max_four min_four
set_option linter.unusedVariables false
set_option linter.unusedSimpArgs false
def schismalaw11_PrimeJoins.j0 : Nat → List Int → Int → List Int → Bool → Option (Bool)
  | 0, _, _, _, _ => none
  | k + 1, x12, x13, x14, x74 => if x74 = true then (some false) else (if (x14.length : Int) > 6 then (if x13 = 4 then (some ((x12.length : Int) == 0)) else (some false)) else (if x13 = 0 then ((api_Primes_int_63.f k x12 x14).bind fun t1691 => (some t1691)) else (some false)))
def schismalaw11_PrimeJoins.f (k : Nat) (a0_0 : Int) (a0_1 : Int) (a1 : Int) : Option (Bool) := (schismalaw11_known.f k).bind fun t1665 => (if t1665 = true then ((schismalaw11_Make.f k a0_0).bind fun t1666 => ((schismalaw11_Make.f k a0_1).bind fun t1669 => ((prime_Index.f k t1666 a1).bind fun bt1672 => ((api_Primes_int_70.f k t1666 a1).bind fun t1674 => ((prime_Within.f k t1666 t1669).bind fun bt1675 => ((prime_Join.f k t1666 t1669).bind fun bt1677 => ((api_Primes_int_89.f k (([t1666, t1669] : List (List Int)))).bind fun t1684 => ((api_Primes_int_90.f t1684).bind fun t1687 => ((api_Primes_int_91.f t1687).bind fun t1688 => (if (bt1672.2 != (decide (t1674 ≥ 0))) = true then (schismalaw11_PrimeJoins.j0 k bt1677.1 bt1677.2 t1688 true) else (if bt1672.1 = (mx t1674 0) then (if bt1675.2 = 0 then (schismalaw11_PrimeJoins.j0 k bt1677.1 bt1677.2 t1688 (bt1675.1 != ((t1688.length : Int) == (t1669.length : Int)))) else (schismalaw11_PrimeJoins.j0 k bt1677.1 bt1677.2 t1688 true)) else (schismalaw11_PrimeJoins.j0 k bt1677.1 bt1677.2 t1688 true)))))))))))) else (some false))
def schismalaw11_PrimeJoins.T3 : Bool × List (List Nat × List Nat) := (true, [([], []), ([0], [0]), ([1], [1]), ([], []), ([3], [3]), ([4, 2], [4]), ([2, 5, 0, 1, 2], [2]), ([5, 6, 0, 1, 2, 3, 4, 5, 6], [5])])
def schismalaw11_PrimeJoins.B3 : List Nat := [0, 1, 3, 0, 8, 31, 63, 127]
theorem schismalaw11_PrimeJoins.tab3 : rtab .any (opsOf Tryz.f18 3) = schismalaw11_PrimeJoins.T3 := by kernel_rfl
theorem schismalaw11_PrimeJoins.bits3 : waitsOk schismalaw11_PrimeJoins.T3.2 schismalaw11_PrimeJoins.B3 = true := by kernel_rfl
theorem schismalaw11_PrimeJoins.j0_no {k : Nat} {x12 x13 x14} {r : Bool} (h : schismalaw11_PrimeJoins.j0 k x12 x13 x14 true = some r) (e : r = true) : False := by
  subst e
  cases k <;> simp [schismalaw11_PrimeJoins.j0] at h
set_option maxHeartbeats 8000000 in
set_option maxRecDepth 100000 in
theorem schismalaw11_PrimeJoins.calls (k : Nat) (a0_0 : Int) (a0_1 : Int) (a1 : Int) (r : Bool) (w : World) (hT : TabW w) (h : schismalaw11_PrimeJoins.f k a0_0 a0_1 a1 = some r) (hr : r = true) :
    Calls Tryz.prog 18 #[.agg #[.int .u16 a0_0, .int .u16 a0_1], .int .i64 a1] w fun e w' => e = .returned (.bool r) ∧ Below w.heap.size w w' := by
  have hu88 := Tryz.underlying88
  have HB := Aside0.mk (Below.refl w.heap.size w)
  have H : ((schismalaw11_known.f k).bind fun t1665 => (if t1665 = true then ((schismalaw11_Make.f k a0_0).bind fun t1666 => ((schismalaw11_Make.f k a0_1).bind fun t1669 => ((prime_Index.f k t1666 a1).bind fun bt1672 => ((api_Primes_int_70.f k t1666 a1).bind fun t1674 => ((prime_Within.f k t1666 t1669).bind fun bt1675 => ((prime_Join.f k t1666 t1669).bind fun bt1677 => ((api_Primes_int_89.f k (([t1666, t1669] : List (List Int)))).bind fun t1684 => ((api_Primes_int_90.f t1684).bind fun t1687 => ((api_Primes_int_91.f t1687).bind fun t1688 => (if (bt1672.2 != (decide (t1674 ≥ 0))) = true then (schismalaw11_PrimeJoins.j0 k bt1677.1 bt1677.2 t1688 true) else (if bt1672.1 = (mx t1674 0) then (if bt1675.2 = 0 then (schismalaw11_PrimeJoins.j0 k bt1677.1 bt1677.2 t1688 (bt1675.1 != ((t1688.length : Int) == (t1669.length : Int)))) else (schismalaw11_PrimeJoins.j0 k bt1677.1 bt1677.2 t1688 true)) else (schismalaw11_PrimeJoins.j0 k bt1677.1 bt1677.2 t1688 true)))))))))))) else (some false))) = some r := h
  clear h
  replace H := Option.bind_eq_some_iff.mp H
  obtain ⟨t1665, A30, H⟩ := H
  replace H : (if t1665 = true then ((schismalaw11_Make.f k a0_0).bind fun t1666 => ((schismalaw11_Make.f k a0_1).bind fun t1669 => ((prime_Index.f k t1666 a1).bind fun bt1672 => ((api_Primes_int_70.f k t1666 a1).bind fun t1674 => ((prime_Within.f k t1666 t1669).bind fun bt1675 => ((prime_Join.f k t1666 t1669).bind fun bt1677 => ((api_Primes_int_89.f k (([t1666, t1669] : List (List Int)))).bind fun t1684 => ((api_Primes_int_90.f t1684).bind fun t1687 => ((api_Primes_int_91.f t1687).bind fun t1688 => (if (bt1672.2 != (decide (t1674 ≥ 0))) = true then (schismalaw11_PrimeJoins.j0 k bt1677.1 bt1677.2 t1688 true) else (if bt1672.1 = (mx t1674 0) then (if bt1675.2 = 0 then (schismalaw11_PrimeJoins.j0 k bt1677.1 bt1677.2 t1688 (bt1675.1 != ((t1688.length : Int) == (t1669.length : Int)))) else (schismalaw11_PrimeJoins.j0 k bt1677.1 bt1677.2 t1688 true)) else (schismalaw11_PrimeJoins.j0 k bt1677.1 bt1677.2 t1688 true)))))))))))) else (some false)) = some r := H
  have A3 := Aside0.mk A30
  clear A30
  by_cases c4 : t1665 = true
  · subst c4
    have H1 : ((schismalaw11_Make.f k a0_0).bind fun t1666 => ((schismalaw11_Make.f k a0_1).bind fun t1669 => ((prime_Index.f k t1666 a1).bind fun bt1672 => ((api_Primes_int_70.f k t1666 a1).bind fun t1674 => ((prime_Within.f k t1666 t1669).bind fun bt1675 => ((prime_Join.f k t1666 t1669).bind fun bt1677 => ((api_Primes_int_89.f k (([t1666, t1669] : List (List Int)))).bind fun t1684 => ((api_Primes_int_90.f t1684).bind fun t1687 => ((api_Primes_int_91.f t1687).bind fun t1688 => (if (bt1672.2 != (decide (t1674 ≥ 0))) = true then (schismalaw11_PrimeJoins.j0 k bt1677.1 bt1677.2 t1688 true) else (if bt1672.1 = (mx t1674 0) then (if bt1675.2 = 0 then (schismalaw11_PrimeJoins.j0 k bt1677.1 bt1677.2 t1688 (bt1675.1 != ((t1688.length : Int) == (t1669.length : Int)))) else (schismalaw11_PrimeJoins.j0 k bt1677.1 bt1677.2 t1688 true)) else (schismalaw11_PrimeJoins.j0 k bt1677.1 bt1677.2 t1688 true)))))))))))) = some r := by rw [if_pos rfl] at H; exact H
    clear H
    have H := H1
    clear H1
    replace H := Option.bind_eq_some_iff.mp H
    obtain ⟨t1666, A50, H⟩ := H
    replace H : ((schismalaw11_Make.f k a0_1).bind fun t1669 => ((prime_Index.f k t1666 a1).bind fun bt1672 => ((api_Primes_int_70.f k t1666 a1).bind fun t1674 => ((prime_Within.f k t1666 t1669).bind fun bt1675 => ((prime_Join.f k t1666 t1669).bind fun bt1677 => ((api_Primes_int_89.f k (([t1666, t1669] : List (List Int)))).bind fun t1684 => ((api_Primes_int_90.f t1684).bind fun t1687 => ((api_Primes_int_91.f t1687).bind fun t1688 => (if (bt1672.2 != (decide (t1674 ≥ 0))) = true then (schismalaw11_PrimeJoins.j0 k bt1677.1 bt1677.2 t1688 true) else (if bt1672.1 = (mx t1674 0) then (if bt1675.2 = 0 then (schismalaw11_PrimeJoins.j0 k bt1677.1 bt1677.2 t1688 (bt1675.1 != ((t1688.length : Int) == (t1669.length : Int)))) else (schismalaw11_PrimeJoins.j0 k bt1677.1 bt1677.2 t1688 true)) else (schismalaw11_PrimeJoins.j0 k bt1677.1 bt1677.2 t1688 true))))))))))) = some r := H
    have A5 := Aside0.mk A50
    clear A50
    replace H := Option.bind_eq_some_iff.mp H
    obtain ⟨t1669, A60, H⟩ := H
    replace H : ((prime_Index.f k t1666 a1).bind fun bt1672 => ((api_Primes_int_70.f k t1666 a1).bind fun t1674 => ((prime_Within.f k t1666 t1669).bind fun bt1675 => ((prime_Join.f k t1666 t1669).bind fun bt1677 => ((api_Primes_int_89.f k (([t1666, t1669] : List (List Int)))).bind fun t1684 => ((api_Primes_int_90.f t1684).bind fun t1687 => ((api_Primes_int_91.f t1687).bind fun t1688 => (if (bt1672.2 != (decide (t1674 ≥ 0))) = true then (schismalaw11_PrimeJoins.j0 k bt1677.1 bt1677.2 t1688 true) else (if bt1672.1 = (mx t1674 0) then (if bt1675.2 = 0 then (schismalaw11_PrimeJoins.j0 k bt1677.1 bt1677.2 t1688 (bt1675.1 != ((t1688.length : Int) == (t1669.length : Int)))) else (schismalaw11_PrimeJoins.j0 k bt1677.1 bt1677.2 t1688 true)) else (schismalaw11_PrimeJoins.j0 k bt1677.1 bt1677.2 t1688 true)))))))))) = some r := H
    have A6 := Aside0.mk A60
    clear A60
    replace H := Option.bind_eq_some_iff.mp H
    obtain ⟨⟨t1672, t1673⟩, A70, H⟩ := H
    replace H : ((api_Primes_int_70.f k t1666 a1).bind fun t1674 => ((prime_Within.f k t1666 t1669).bind fun bt1675 => ((prime_Join.f k t1666 t1669).bind fun bt1677 => ((api_Primes_int_89.f k (([t1666, t1669] : List (List Int)))).bind fun t1684 => ((api_Primes_int_90.f t1684).bind fun t1687 => ((api_Primes_int_91.f t1687).bind fun t1688 => (if (t1673 != (decide (t1674 ≥ 0))) = true then (schismalaw11_PrimeJoins.j0 k bt1677.1 bt1677.2 t1688 true) else (if t1672 = (mx t1674 0) then (if bt1675.2 = 0 then (schismalaw11_PrimeJoins.j0 k bt1677.1 bt1677.2 t1688 (bt1675.1 != ((t1688.length : Int) == (t1669.length : Int)))) else (schismalaw11_PrimeJoins.j0 k bt1677.1 bt1677.2 t1688 true)) else (schismalaw11_PrimeJoins.j0 k bt1677.1 bt1677.2 t1688 true))))))))) = some r := H
    have A7 := Aside0.mk A70
    clear A70
    replace H := Option.bind_eq_some_iff.mp H
    obtain ⟨t1674, A80, H⟩ := H
    replace H : ((prime_Within.f k t1666 t1669).bind fun bt1675 => ((prime_Join.f k t1666 t1669).bind fun bt1677 => ((api_Primes_int_89.f k (([t1666, t1669] : List (List Int)))).bind fun t1684 => ((api_Primes_int_90.f t1684).bind fun t1687 => ((api_Primes_int_91.f t1687).bind fun t1688 => (if (t1673 != (decide (t1674 ≥ 0))) = true then (schismalaw11_PrimeJoins.j0 k bt1677.1 bt1677.2 t1688 true) else (if t1672 = (mx t1674 0) then (if bt1675.2 = 0 then (schismalaw11_PrimeJoins.j0 k bt1677.1 bt1677.2 t1688 (bt1675.1 != ((t1688.length : Int) == (t1669.length : Int)))) else (schismalaw11_PrimeJoins.j0 k bt1677.1 bt1677.2 t1688 true)) else (schismalaw11_PrimeJoins.j0 k bt1677.1 bt1677.2 t1688 true)))))))) = some r := H
    have A8 := Aside0.mk A80
    clear A80
    replace H := Option.bind_eq_some_iff.mp H
    obtain ⟨⟨t1675, t1676⟩, A90, H⟩ := H
    replace H : ((prime_Join.f k t1666 t1669).bind fun bt1677 => ((api_Primes_int_89.f k (([t1666, t1669] : List (List Int)))).bind fun t1684 => ((api_Primes_int_90.f t1684).bind fun t1687 => ((api_Primes_int_91.f t1687).bind fun t1688 => (if (t1673 != (decide (t1674 ≥ 0))) = true then (schismalaw11_PrimeJoins.j0 k bt1677.1 bt1677.2 t1688 true) else (if t1672 = (mx t1674 0) then (if t1676 = 0 then (schismalaw11_PrimeJoins.j0 k bt1677.1 bt1677.2 t1688 (t1675 != ((t1688.length : Int) == (t1669.length : Int)))) else (schismalaw11_PrimeJoins.j0 k bt1677.1 bt1677.2 t1688 true)) else (schismalaw11_PrimeJoins.j0 k bt1677.1 bt1677.2 t1688 true))))))) = some r := H
    have A9 := Aside0.mk A90
    clear A90
    replace H := Option.bind_eq_some_iff.mp H
    obtain ⟨⟨t1677, t1680⟩, A100, H⟩ := H
    replace H : ((api_Primes_int_89.f k (([t1666, t1669] : List (List Int)))).bind fun t1684 => ((api_Primes_int_90.f t1684).bind fun t1687 => ((api_Primes_int_91.f t1687).bind fun t1688 => (if (t1673 != (decide (t1674 ≥ 0))) = true then (schismalaw11_PrimeJoins.j0 k t1677 t1680 t1688 true) else (if t1672 = (mx t1674 0) then (if t1676 = 0 then (schismalaw11_PrimeJoins.j0 k t1677 t1680 t1688 (t1675 != ((t1688.length : Int) == (t1669.length : Int)))) else (schismalaw11_PrimeJoins.j0 k t1677 t1680 t1688 true)) else (schismalaw11_PrimeJoins.j0 k t1677 t1680 t1688 true)))))) = some r := H
    have A10 := Aside0.mk A100
    clear A100
    obtain ⟨y1681, hy1681⟩ : ∃ y_ : List (List Int), y_ = (([t1666, t1669] : List (List Int))) := ⟨_, rfl⟩
    replace H : ((api_Primes_int_89.f k y1681).bind fun t1684 => ((api_Primes_int_90.f t1684).bind fun t1687 => ((api_Primes_int_91.f t1687).bind fun t1688 => (if (t1673 != (decide (t1674 ≥ 0))) = true then (schismalaw11_PrimeJoins.j0 k t1677 t1680 t1688 true) else (if t1672 = (mx t1674 0) then (if t1676 = 0 then (schismalaw11_PrimeJoins.j0 k t1677 t1680 t1688 (t1675 != ((t1688.length : Int) == (t1669.length : Int)))) else (schismalaw11_PrimeJoins.j0 k t1677 t1680 t1688 true)) else (schismalaw11_PrimeJoins.j0 k t1677 t1680 t1688 true)))))) = some r := by first | (rw [hy1681]; with_reducible exact H) | (have H2_ := (Option.bind_some _ _).symm.trans H; rw [hy1681]; with_reducible exact H2_) | (have H2_ := (Option.bind_some _ _).symm.trans H; with_reducible exact H2_) | with_reducible exact H | (rw [hy1681]; exact H) | exact H
    have Ny1681 := Aside0.mk hy1681
    clear hy1681
    replace H := Option.bind_eq_some_iff.mp H
    obtain ⟨t1684, A110, H⟩ := H
    replace H : ((api_Primes_int_90.f t1684).bind fun t1687 => ((api_Primes_int_91.f t1687).bind fun t1688 => (if (t1673 != (decide (t1674 ≥ 0))) = true then (schismalaw11_PrimeJoins.j0 k t1677 t1680 t1688 true) else (if t1672 = (mx t1674 0) then (if t1676 = 0 then (schismalaw11_PrimeJoins.j0 k t1677 t1680 t1688 (t1675 != ((t1688.length : Int) == (t1669.length : Int)))) else (schismalaw11_PrimeJoins.j0 k t1677 t1680 t1688 true)) else (schismalaw11_PrimeJoins.j0 k t1677 t1680 t1688 true))))) = some r := H
    have A11 := Aside0.mk A110
    clear A110
    replace H := Option.bind_eq_some_iff.mp H
    obtain ⟨t1687, A120, H⟩ := H
    replace H : ((api_Primes_int_91.f t1687).bind fun t1688 => (if (t1673 != (decide (t1674 ≥ 0))) = true then (schismalaw11_PrimeJoins.j0 k t1677 t1680 t1688 true) else (if t1672 = (mx t1674 0) then (if t1676 = 0 then (schismalaw11_PrimeJoins.j0 k t1677 t1680 t1688 (t1675 != ((t1688.length : Int) == (t1669.length : Int)))) else (schismalaw11_PrimeJoins.j0 k t1677 t1680 t1688 true)) else (schismalaw11_PrimeJoins.j0 k t1677 t1680 t1688 true)))) = some r := H
    have A12 := Aside0.mk A120
    clear A120
    replace H := Option.bind_eq_some_iff.mp H
    obtain ⟨t1688, A130, H⟩ := H
    replace H : (if (t1673 != (decide (t1674 ≥ 0))) = true then (schismalaw11_PrimeJoins.j0 k t1677 t1680 t1688 true) else (if t1672 = (mx t1674 0) then (if t1676 = 0 then (schismalaw11_PrimeJoins.j0 k t1677 t1680 t1688 (t1675 != ((t1688.length : Int) == (t1669.length : Int)))) else (schismalaw11_PrimeJoins.j0 k t1677 t1680 t1688 true)) else (schismalaw11_PrimeJoins.j0 k t1677 t1680 t1688 true))) = some r := H
    have A13 := Aside0.mk A130
    clear A130
    have HC14 := Aside0.mk H
    clear H
    go_enter Tryz.func18, Tryz.ntmps18
    try go_wp2_with (first | ((with_reducible refine gate_dst (N := 2) rfl ?_); (try (refine gate_guard (by rfl) ?_; dsimp only)); refine box_event ?hg (N := 2) ?hd (cs := #[.int .u16 a0_0, .int .u16 a0_1]) (t := 88) ?hr ?_; (case hd => rfl); (case hg => rfl); (case hr => first | (go_simp; done) | (go_simp; rfl)); intro gb1664 hg w15 hbox hb; have n0_ := Aside0.mk (below_step (by repeat (first | (with_reducible first | exact HB.out | apply below_alloc | apply pw_below_drewN | apply below_drew1) | exact HB.out)) hb); have n1_ := Aside0.mk (hbox); have n2_ := Aside0.mk ((by rw [hg]; exact (below_size (by repeat (first | (with_reducible first | exact HB.out | apply below_alloc | apply pw_below_drewN | apply below_drew1) | exact HB.out))) : w.heap.size ≤ gb1664)); have n3_ := Aside0.mk ((by rw [hg]; exact (below_size (by repeat (first | (with_reducible first | exact HB.out | apply below_alloc | apply pw_below_drewN | apply below_drew1) | exact HB.out))) : w.heap.size ≤ gb1664)); clear HB; have HB := n0_; have BK1664 := n1_; have GW1664 := n2_; have GE1664 := n3_; clear n0_ n1_ n2_ n3_; clear hb hbox hg) | ((with_reducible refine gate_callee (f := 58) rfl ?_); refine goesL_ (some 15) rfl rfl Tryz.func58 (by kernel_rfl) rfl #[] rfl (by (try simp only [List.map_toArray, List.map_cons, List.map_nil]); first | done | rfl | (simp only [List.length_drop, List.length_take]; rfl)) ?_; (with_reducible refine (schismalaw11_known.calls k  true _ ?side1 A3.out (by first | rfl | assumption)).mono ?_); (case side1 => refine TabW.below hT ?_; repeat (first | (with_reducible first | exact HB.out | apply below_alloc | apply pw_below_drewN | apply below_drew1 | refine below_set ?_ GE1664.out) | exact HB.out)); rintro e w16 ⟨rfl, hb⟩; refine ⟨_, rfl, ?_⟩; have n0_ := Aside0.mk (blk_below (g := gb1664) (o := .cells #[.int .u16 a0_0, .int .u16 a0_1] 88 (0, 0)) (by (with_reducible repeat (first | refine blk_drewN ?_ _ | refine blk_drew ?_ | refine blk_alloc ?_ _)); exact BK1664.out) hb); have n1_ := Aside0.mk (below_step (by repeat (first | (with_reducible first | exact HB.out | apply below_alloc | apply pw_below_drewN | apply below_drew1 | refine below_set ?_ GE1664.out) | exact HB.out)) hb); clear BK1664; clear HB; have BK1664 := n0_; have HB := n1_; clear n0_ n1_; (try clear hb); (try clear hb2); (try clear hk); (try clear hi)))
    have n0_ := Aside0.mk (blk_drew BK1664.out)
    have n1_ := Aside0.mk (below_drew1 HB.out)
    clear BK1664
    clear HB
    have BK1664 := n0_
    have HB := n1_
    clear n0_ n1_
    refine start_ (n := 8) (S := fun w' => w'.cell? ⟨gb1664, 0, none⟩ = some (.int .u16 a0_0) ∧ w'.cell? ⟨gb1664, 1, none⟩ = some (.int .u16 a0_1)) (ds := []) #[false, false, false, false, false, false, false, false] (by kernel_rfl) rfl rfl ⟨(blk_cell BK1664.out 0).trans rfl, (blk_cell BK1664.out 1).trans rfl⟩ (fun hHeld => ?_); refine with_tabW schismalaw11_PrimeJoins.tab3 schismalaw11_PrimeJoins.bits3 (fun HT_ HW_ => ?_)
    generalize w16.drew = w17 at BK1664 HB hHeld ⊢
    refine pure_ (i := 0) (N := some 17) (v := ?_) (a' := ?_) #[true, false, false, false, false, false, false, false] rfl rfl (any_of HT_.out (by kernel_rfl)) (fun _ _ _ h => h) (Or.inl ⟨by rfl, ?_⟩) ?_ ?_
    rotate_left
    · intro w'
      go_simp
      with_reducible rfl
    rotate_left
    · simp only [Act.put, List.setIfInBounds_toArray, List.set_cons_zero, List.set_cons_succ, i64_w, i32_w]
      rfl
    refine pure_ (i := 3) (N := some 20) (v := ?_) (a' := ?_) #[true, false, false, true, false, false, false, false] rfl rfl (any_of HT_.out (by kernel_rfl)) (fun _ _ _ h => h) (Or.inl ⟨by rfl, ?_⟩) ?_ ?_
    rotate_left
    · intro w'
      go_simp
      with_reducible rfl
    rotate_left
    · simp only [Act.put, List.setIfInBounds_toArray, List.set_cons_zero, List.set_cons_succ, i64_w, i32_w]
      rfl
    refine take_ (i := 1) (N := some 18) (v := ?_) (a' := ?_) #[true, true, false, true, false, false, false, false] rfl rfl (take_ofW HT_.out HW_.out (by kernel_rfl)) (fun _ _ _ h => h) (Or.inl ⟨by rfl, ?_⟩) hHeld ?_ ?_
    rotate_left
    · rintro w' ⟨s0, s1⟩
      go_simp
      with_reducible rfl
    rotate_left
    · simp only [Act.put, List.setIfInBounds_toArray, List.set_cons_zero, List.set_cons_succ, i64_w, i32_w]
      rfl
    refine take_ (i := 4) (N := some 21) (v := ?_) (a' := ?_) #[true, true, false, true, true, false, false, false] rfl rfl (take_ofW HT_.out HW_.out (by kernel_rfl)) (fun _ _ _ h => h) (Or.inl ⟨by rfl, ?_⟩) hHeld ?_ ?_
    rotate_left
    · rintro w' ⟨s0, s1⟩
      go_simp
      with_reducible rfl
    rotate_left
    · simp only [Act.put, List.setIfInBounds_toArray, List.set_cons_zero, List.set_cons_succ, i64_w, i32_w]
      rfl
    refine one_ (i := 2) (N := some 19) #[true, true, true, true, true, false, false, false] rfl rfl (one_of HT_.out (by kernel_rfl)) (by decide) (fun K hK => ?_)
    refine goes_ Tryz.func66 (by kernel_rfl) rfl #[.int .u16 a0_0] (by rfl) rfl rfl (by (try simp only [List.map_toArray, List.map_cons, List.map_nil]); first | done | rfl | (simp only [List.length_drop, List.length_take]; rfl)) ?_
    with_reducible refine (schismalaw11_Make.calls k a0_0 t1666 _ A5.out).mono ?_
    rintro e w18 ⟨v1667, rfl, ho0, hb⟩
    refine ⟨_, rfl, ?_⟩
    have n0_ := Aside0.mk (Kd.R_lower ho0 (below_size (by repeat (first | (with_reducible first | exact HB.out | apply below_alloc | apply pw_below_drewN | apply below_drew1 | refine below_set ?_ GE1664.out) | exact HB.out))))
    have n1_ := Aside0.mk (blk_below (g := gb1664) (o := .cells #[.int .u16 a0_0, .int .u16 a0_1] 88 (0, 0)) (by (with_reducible repeat (first | refine blk_drewN ?_ _ | refine blk_drew ?_ | refine blk_alloc ?_ _)); exact BK1664.out) hb)
    have n2_ := Aside0.mk (below_step (by repeat (first | (with_reducible first | exact HB.out | apply below_alloc | apply pw_below_drewN | apply below_drew1 | refine below_set ?_ GE1664.out) | exact HB.out)) hb)
    clear BK1664
    clear HB
    have HO1668 := n0_
    have BK1664 := n1_
    have HB := n2_
    clear n0_ n1_ n2_
    (try clear hb)
    (try clear hb2)
    (try clear hk)
    (try clear hi)
    (try clear ho0)
    refine hK.out _ _ ⟨(blk_cell BK1664.out 0).trans rfl, (blk_cell BK1664.out 1).trans rfl⟩ (fun hHeld => ?_)
    clear hK K
    refine norm_ (a' := ?_) ?_ ?_
    rotate_left
    · show Act.put _ (some 19) _ = _
      simp only [Act.put, List.setIfInBounds_toArray, List.set_cons_zero, List.set_cons_succ, i64_w, i32_w]
      rfl
    refine one_ (i := 5) (N := some 22) #[true, true, true, true, true, true, false, false] rfl rfl (one_of HT_.out (by kernel_rfl)) (by decide) (fun K hK => ?_)
    refine goes_ Tryz.func66 (by kernel_rfl) rfl #[.int .u16 a0_1] (by rfl) rfl rfl (by (try simp only [List.map_toArray, List.map_cons, List.map_nil]); first | done | rfl | (simp only [List.length_drop, List.length_take]; rfl)) ?_
    with_reducible refine (schismalaw11_Make.calls k a0_1 t1669 _ A6.out).mono ?_
    rintro e w19 ⟨v1670, rfl, ho0, hb⟩
    refine ⟨_, rfl, ?_⟩
    have n0_ := Aside0.mk (Kd.R_elder' (by (with_reducible repeat (first | apply Kd.R_alloc | apply Kd.R_drewN | apply Kd.R_drew)); exact HO1668.out) (Kd.R_base ho0) hb)
    have n1_ := Aside0.mk (Kd.R_lower (Kd.R_new' ho0 (Kd.R_lt (by (with_reducible repeat (first | apply Kd.R_alloc | apply Kd.R_drewN | apply Kd.R_drew)); exact HO1668.out))) (below_size (by repeat (first | (with_reducible first | exact HB.out | apply below_alloc | apply pw_below_drewN | apply below_drew1 | refine below_set ?_ GE1664.out) | exact HB.out))))
    have n2_ := Aside0.mk (blk_below (g := gb1664) (o := .cells #[.int .u16 a0_0, .int .u16 a0_1] 88 (0, 0)) (by (with_reducible repeat (first | refine blk_drewN ?_ _ | refine blk_drew ?_ | refine blk_alloc ?_ _)); exact BK1664.out) hb)
    have n3_ := Aside0.mk (below_step (by repeat (first | (with_reducible first | exact HB.out | apply below_alloc | apply pw_below_drewN | apply below_drew1 | refine below_set ?_ GE1664.out) | exact HB.out)) hb)
    clear HO1668
    clear BK1664
    clear HB
    have HO1668 := n0_
    have HO1671 := n1_
    have BK1664 := n2_
    have HB := n3_
    clear n0_ n1_ n2_ n3_
    (try clear hb)
    (try clear hb2)
    (try clear hk)
    (try clear hi)
    (try clear ho0)
    refine hK.out _ _ ⟨(blk_cell BK1664.out 0).trans rfl, (blk_cell BK1664.out 1).trans rfl⟩ (fun hHeld => ?_)
    clear hK K
    refine norm_ (a' := ?_) ?_ ?_
    rotate_left
    · show Act.put _ (some 22) _ = _
      simp only [Act.put, List.setIfInBounds_toArray, List.set_cons_zero, List.set_cons_succ, i64_w, i32_w]
      rfl
    refine pure_ (i := 6) (N := some 5) (v := ?_) (a' := ?_) #[true, true, true, true, true, true, true, false] rfl rfl (any_of HT_.out (by kernel_rfl)) (fun _ _ _ h => h) (Or.inl ⟨by rfl, ?_⟩) ?_ ?_
    rotate_left
    · intro w'
      go_simp
      with_reducible rfl
    rotate_left
    · simp only [Act.put, List.setIfInBounds_toArray, List.set_cons_zero, List.set_cons_succ, i64_w, i32_w]
      rfl
    refine pure_ (i := 7) (N := some 6) (v := ?_) (a' := ?_) #[true, true, true, true, true, true, true, true] rfl rfl (any_of HT_.out (by kernel_rfl)) (fun _ _ _ h => h) (Or.inl ⟨by rfl, ?_⟩) ?_ ?_
    rotate_left
    · intro w'
      go_simp
      with_reducible rfl
    rotate_left
    · simp only [Act.put, List.setIfInBounds_toArray, List.set_cons_zero, List.set_cons_succ, i64_w, i32_w]
      rfl
    refine done_ (done_of HT_.out (by kernel_rfl)) ?_
    obtain ⟨Ao20, co20, eo20⟩ := Kd.R_slice HO1668.out
    subst eo20
    go_upto_region 11 with (first | ((with_reducible refine gate_callee (f := 86) rfl ?_); refine goesL_ (some 26) rfl rfl Tryz.func86 (by kernel_rfl) rfl #[.slice Ao20 t1666.length co20, .int .i64 a1] rfl (by (try simp only [List.map_toArray, List.map_cons, List.map_nil]); first | done | rfl | (simp only [List.length_drop, List.length_take]; rfl)) ?_; (with_reducible refine (prime_Index.calls k _ _ t1666 a1 t1672 t1673 _ ?side1 ?side2 A7.out).mono ?_); (case side1 => repeat (first | exact (Kd.R_reads' HO1668.out).2.2 | (with_reducible refine Kd.C_alloc ?_ _) | (with_reducible refine Kd.C_drewN ?_ _) | (with_reducible refine Kd.C_drew ?_))); (case side2 => exact (Kd.R_reads' HO1668.out).2.1); rintro e w21 ⟨rfl, hb⟩; refine ⟨_, rfl, ?_⟩; have n0_ := Aside0.mk (Kd.R_below (by (with_reducible repeat (first | apply Kd.R_alloc | apply Kd.R_drewN | apply Kd.R_drew)); exact HO1668.out) hb); have n1_ := Aside0.mk (Kd.R_below (by (with_reducible repeat (first | apply Kd.R_alloc | apply Kd.R_drewN | apply Kd.R_drew)); exact HO1671.out) hb); have n2_ := Aside0.mk (blk_below (g := gb1664) (o := .cells #[.int .u16 a0_0, .int .u16 a0_1] 88 (0, 0)) (by (with_reducible repeat (first | refine blk_drewN ?_ _ | refine blk_drew ?_ | refine blk_alloc ?_ _)); exact BK1664.out) hb); have n3_ := Aside0.mk (below_step (by repeat (first | (with_reducible first | exact HB.out | apply below_alloc | apply pw_below_drewN | apply below_drew1 | refine below_set ?_ GE1664.out) | exact HB.out)) hb); clear HO1668; clear HO1671; clear BK1664; clear HB; have HO1668 := n0_; have HO1671 := n1_; have BK1664 := n2_; have HB := n3_; clear n0_ n1_ n2_ n3_; (try clear hb); (try clear hb2); (try clear hk); (try clear hi)) | ((with_reducible refine gate_callee (f := 70) rfl ?_); refine goesL_ (some 31) rfl rfl Tryz.func70 (by kernel_rfl) rfl #[.slice Ao20 t1666.length co20, .int .i64 a1] rfl (by (try simp only [List.map_toArray, List.map_cons, List.map_nil]); first | done | rfl | (simp only [List.length_drop, List.length_take]; rfl)) ?_; (with_reducible refine (api_Primes_int_70.calls k _ _ t1666 a1 t1674 _ ?side1 ?side2 A8.out).mono ?_); (case side1 => repeat (first | exact (Kd.R_reads' HO1668.out).2.2 | (with_reducible refine Kd.C_alloc ?_ _) | (with_reducible refine Kd.C_drewN ?_ _) | (with_reducible refine Kd.C_drew ?_))); (case side2 => exact (Kd.R_reads' HO1668.out).2.1); rintro e w' ⟨rfl, ⟨nd, rfl⟩⟩; refine ⟨_, rfl, ?_⟩; obtain ⟨Ao22, co22, eo22⟩ := Kd.R_slice HO1671.out; subst eo22) | ((with_reducible refine gate_callee (f := 87) rfl ?_); refine goesL_ (some 35) rfl rfl Tryz.func87 (by kernel_rfl) rfl #[.slice Ao20 t1666.length co20, .slice Ao22 t1669.length co22] rfl (by (try simp only [List.map_toArray, List.map_cons, List.map_nil]); first | done | rfl | (simp only [List.length_drop, List.length_take]; rfl)) ?_; (with_reducible refine (prime_Within.calls k _ _ t1666 _ _ t1669 t1675 t1676 _ ?side1 ?side2 ?side3 ?side4 A9.out).mono ?_); (case side1 => repeat (first | exact (Kd.R_reads' HO1668.out).2.2 | (with_reducible refine Kd.C_alloc ?_ _) | (with_reducible refine Kd.C_drewN ?_ _) | (with_reducible refine Kd.C_drew ?_))); (case side2 => exact (Kd.R_reads' HO1668.out).2.1); (case side3 => repeat (first | exact (Kd.R_reads' HO1671.out).2.2 | (with_reducible refine Kd.C_alloc ?_ _) | (with_reducible refine Kd.C_drewN ?_ _) | (with_reducible refine Kd.C_drew ?_))); (case side4 => exact (Kd.R_reads' HO1671.out).2.1); rintro e w23 ⟨rfl, hb⟩; refine ⟨_, rfl, ?_⟩; have n0_ := Aside0.mk (Kd.R_below (by (with_reducible repeat (first | apply Kd.R_alloc | apply Kd.R_drewN | apply Kd.R_drew)); exact HO1668.out) hb); have n1_ := Aside0.mk (Kd.R_below (by (with_reducible repeat (first | apply Kd.R_alloc | apply Kd.R_drewN | apply Kd.R_drew)); exact HO1671.out) hb); have n2_ := Aside0.mk (blk_below (g := gb1664) (o := .cells #[.int .u16 a0_0, .int .u16 a0_1] 88 (0, 0)) (by (with_reducible repeat (first | refine blk_drewN ?_ _ | refine blk_drew ?_ | refine blk_alloc ?_ _)); exact BK1664.out) hb); have n3_ := Aside0.mk (below_step (by repeat (first | (with_reducible first | exact HB.out | apply below_alloc | apply pw_below_drewN | apply below_drew1 | refine below_set ?_ GE1664.out) | exact HB.out)) hb); clear HO1668; clear HO1671; clear BK1664; clear HB; have HO1668 := n0_; have HO1671 := n1_; have BK1664 := n2_; have HB := n3_; clear n0_ n1_ n2_ n3_; (try clear hb); (try clear hb2); (try clear hk); (try clear hi)) | ((with_reducible refine gate_callee (f := 88) rfl ?_); refine goesL_ (some 41) rfl rfl Tryz.func88 (by kernel_rfl) rfl #[.slice Ao20 t1666.length co20, .slice Ao22 t1669.length co22] rfl (by (try simp only [List.map_toArray, List.map_cons, List.map_nil]); first | done | rfl | (simp only [List.length_drop, List.length_take]; rfl)) ?_; (with_reducible refine (prime_Join.calls k (fun k_ => some k_ = (.slice Ao20 t1666.length co20 : Value).ownBlock) _ _ t1666 (fun k_ => some k_ = (.slice Ao22 t1669.length co22 : Value).ownBlock) _ _ t1669 t1677 t1680 _ ?side1 ?side2 A10.out).mono ?_); (case side1 => exact Kd.R_V (Kd.R_tight rfl (Kd.R_types (HO1668.out) BK1664.out (by decide)))); (case side2 => exact Kd.R_V (Kd.R_tight rfl (Kd.R_types (HO1671.out) BK1664.out (by decide)))); rintro e w24 ⟨v1678, rfl, ho0, hb⟩; refine ⟨_, rfl, ?_⟩; have n0_ := Aside0.mk (Kd.R_elder' (by (with_reducible repeat (first | apply Kd.R_alloc | apply Kd.R_drewN | apply Kd.R_drew)); exact HO1668.out) (Kd.R_base ho0) hb); have n1_ := Aside0.mk (Kd.R_elder' (by (with_reducible repeat (first | apply Kd.R_alloc | apply Kd.R_drewN | apply Kd.R_drew)); exact HO1671.out) (Kd.R_base ho0) hb); have n2_ := Aside0.mk (Kd.R_lower (Kd.R_new' (Kd.R_new' (Kd.R_mono (ok' := fun k_ => True) ho0 (fun _ hk_ => trivial)) (Kd.R_lt (by (with_reducible repeat (first | apply Kd.R_alloc | apply Kd.R_drewN | apply Kd.R_drew)); exact HO1668.out))) (Kd.R_lt (by (with_reducible repeat (first | apply Kd.R_alloc | apply Kd.R_drewN | apply Kd.R_drew)); exact HO1671.out))) (below_size (by repeat (first | (with_reducible first | exact HB.out | apply below_alloc | apply pw_below_drewN | apply below_drew1 | refine below_set ?_ GE1664.out) | exact HB.out)))); have n3_ := Aside0.mk (blk_below (g := gb1664) (o := .cells #[.int .u16 a0_0, .int .u16 a0_1] 88 (0, 0)) (by (with_reducible repeat (first | refine blk_drewN ?_ _ | refine blk_drew ?_ | refine blk_alloc ?_ _)); exact BK1664.out) hb); have n4_ := Aside0.mk (below_step (by repeat (first | (with_reducible first | exact HB.out | apply below_alloc | apply pw_below_drewN | apply below_drew1 | refine below_set ?_ GE1664.out) | exact HB.out)) hb); clear HO1668; clear HO1671; clear BK1664; clear HB; have HO1668 := n0_; have HO1671 := n1_; have HO1679 := n2_; have BK1664 := n3_; have HB := n4_; clear n0_ n1_ n2_ n3_ n4_; (try clear hb); (try clear hb2); (try clear hk); (try clear hi); (try clear ho0)) | ((with_reducible refine gate_dst (N := 46) rfl ?_); (try (refine gate_guard (by rfl) ?_; dsimp only)); refine Kd.N_lit (Kd.slice 3 (Kd.int .i64)) _ 23 ?hg (N' := 46) ?hd (xs := ([t1666, t1669] : List (List Int))) (inner := [.slice Ao20 t1666.length co20, .slice Ao22 t1669.length co22]) (ok := (fun k_ => some k_ ≠ (v1678 : Value).ownBlock ∧ k_ ≠ gb1664)) (okp := (fun k_ => some k_ ≠ (v1678 : Value).ownBlock ∧ k_ ≠ gb1664)) ?hr ?hp (fun _ hk => hk) ((show ∀ k_, w24.heap.size ≤ k_ → (fun k_ => some k_ ≠ (v1678 : Value).ownBlock ∧ k_ ≠ gb1664) k_ from fun k_ hk => ⟨Kd.fresh' (Kd.R_lt (by (with_reducible repeat (first | apply Kd.R_alloc | apply Kd.R_drewN | apply Kd.R_drew)); exact HO1679.out)) k_ hk, Kd.freshB (g := gb1664) (o := .cells #[.int .u16 a0_0, .int .u16 a0_1] 88 (0, 0)) (by (with_reducible repeat (first | refine blk_drewN ?_ _ | refine blk_drew ?_ | refine blk_alloc ?_ _)); exact BK1664.out) k_ hk⟩) _ (Nat.le_refl _)) (Below.refl _ _) (Nat.le_refl _) (by simp) ?_; (case hd => rfl); (case hg => rfl); (case hr => first | (go_simp; done) | (go_simp; rfl)); (case hp => exact (Reps.one (show Kd.FK (Kd.slice 3 (Kd.int .i64)) _ _ t1666 [.slice Ao20 t1666.length co20] from (Kd.FK_slice_mk (Kd.R_reads' (Kd.R_mono (ok' := (fun k_ => some k_ ≠ (v1678 : Value).ownBlock ∧ k_ ≠ gb1664)) (Kd.R_types (HO1668.out) BK1664.out (by decide)) (fun k_ hk => ⟨hk.1.2, hk.2⟩))).2.1 (Kd.R_F (Kd.R_mono (ok' := (fun k_ => some k_ ≠ (v1678 : Value).ownBlock ∧ k_ ≠ gb1664)) (Kd.R_types (HO1668.out) BK1664.out (by decide)) (fun k_ hk => ⟨hk.1.2, hk.2⟩))))) (Reps.one (show Kd.FK (Kd.slice 3 (Kd.int .i64)) _ _ t1669 [.slice Ao22 t1669.length co22] from (Kd.FK_slice_mk (Kd.R_reads' (Kd.R_mono (ok' := (fun k_ => some k_ ≠ (v1678 : Value).ownBlock ∧ k_ ≠ gb1664)) (Kd.R_types (HO1671.out) BK1664.out (by decide)) (fun k_ hk => ⟨hk.1.2, hk.2⟩))).2.1 (Kd.R_F (Kd.R_mono (ok' := (fun k_ => some k_ ≠ (v1678 : Value).ownBlock ∧ k_ ≠ gb1664)) (Kd.R_types (HO1671.out) BK1664.out (by decide)) (fun k_ hk => ⟨hk.1.2, hk.2⟩))))) (Reps.none _ _)))); intro v1682 w25 ho26 hb hg_ hnew_; clear hg_ hnew_; (first | rw [← Ny1681.out] at ho26 | (simp only [Int.reduceToNat] at ho26; rw [← Ny1681.out] at ho26)); have n0_ := Aside0.mk (Kd.R_below (by (with_reducible repeat (first | apply Kd.R_alloc | apply Kd.R_drewN | apply Kd.R_drew)); exact HO1679.out) hb); have n1_ := Aside0.mk (Kd.N_lower ho26 (below_size (by repeat (first | (with_reducible first | exact HB.out | apply below_alloc | apply pw_below_drewN | apply below_drew1 | refine below_set ?_ GE1664.out) | exact HB.out)))); have n2_ := Aside0.mk (blk_below (g := gb1664) (o := .cells #[.int .u16 a0_0, .int .u16 a0_1] 88 (0, 0)) (by (with_reducible repeat (first | refine blk_drewN ?_ _ | refine blk_drew ?_ | refine blk_alloc ?_ _)); exact BK1664.out) hb); have n3_ := Aside0.mk (below_step (by repeat (first | (with_reducible first | exact HB.out | apply below_alloc | apply pw_below_drewN | apply below_drew1 | refine below_set ?_ GE1664.out) | exact HB.out)) hb); clear HO1679; clear BK1664; clear HB; clear HO1668; clear HO1671; have HO1679 := n0_; have HO1683 := n1_; have BK1664 := n2_; have HB := n3_; clear n0_ n1_ n2_ n3_; clear hb ho26; obtain ⟨Ao27, co27, eo27⟩ := Kd.N_slice HO1683.out; subst eo27) | ((with_reducible refine gate_callee (f := 89) rfl ?_); refine goesL_ (some 47) rfl rfl Tryz.func89 (by kernel_rfl) rfl #[.slice Ao27 y1681.length co27] rfl (by (try simp only [List.map_toArray, List.map_cons, List.map_nil]); first | done | rfl | (simp only [List.length_drop, List.length_take]; rfl)) ?_; (with_reducible refine (api_Primes_int_89.calls k _ _ y1681 t1684 _ ?side1 ?side2 A11.out).mono ?_); (case side1 => repeat (first | exact (Kd.N_reads' HO1683.out).2.2 | (with_reducible refine Kd.C_alloc ?_ _) | (with_reducible refine Kd.C_drewN ?_ _) | (with_reducible refine Kd.C_drew ?_))); (case side2 => exact (Kd.N_reads' HO1683.out).2.1); rintro e w28 ⟨v1685, rfl, ho0, hb⟩; refine ⟨_, rfl, ?_⟩; have n0_ := Aside0.mk (Kd.R_elder' (by (with_reducible repeat (first | apply Kd.R_alloc | apply Kd.R_drewN | apply Kd.R_drew)); exact HO1679.out) (Kd.R_base ho0) hb); have n1_ := Aside0.mk (Kd.N_elder' (by (with_reducible repeat (first | apply Kd.N_alloc | apply Kd.N_drewN | apply Kd.N_drew)); exact HO1683.out) (Kd.R_base ho0) hb); have n2_ := Aside0.mk (Kd.R_lower (Kd.R_new' ho0 (Kd.R_lt (by (with_reducible repeat (first | apply Kd.R_alloc | apply Kd.R_drewN | apply Kd.R_drew)); exact HO1679.out))) (below_size (by repeat (first | (with_reducible first | exact HB.out | apply below_alloc | apply pw_below_drewN | apply below_drew1 | refine below_set ?_ GE1664.out) | exact HB.out)))); have n3_ := Aside0.mk (blk_below (g := gb1664) (o := .cells #[.int .u16 a0_0, .int .u16 a0_1] 88 (0, 0)) (by (with_reducible repeat (first | refine blk_drewN ?_ _ | refine blk_drew ?_ | refine blk_alloc ?_ _)); exact BK1664.out) hb); have n4_ := Aside0.mk (below_step (by repeat (first | (with_reducible first | exact HB.out | apply below_alloc | apply pw_below_drewN | apply below_drew1 | refine below_set ?_ GE1664.out) | exact HB.out)) hb); clear HO1679; clear HO1683; clear BK1664; clear HB; have HO1679 := n0_; have HO1683 := n1_; have HO1686 := n2_; have BK1664 := n3_; have HB := n4_; clear n0_ n1_ n2_ n3_ n4_; (try clear hb); (try clear hb2); (try clear hk); (try clear hi); (try clear ho0); obtain ⟨Ao29, co29, eo29⟩ := Kd.R_slice HO1686.out; subst eo29) | ((with_reducible refine gate_callee (f := 90) rfl ?_); refine goesL_ (some 49) rfl rfl Tryz.func90 (by kernel_rfl) rfl #[.slice Ao29 t1684.length co29] rfl (by (try simp only [List.map_toArray, List.map_cons, List.map_nil]); first | done | rfl | (simp only [List.length_drop, List.length_take]; rfl)) ?_; (with_reducible refine (api_Primes_int_90.calls (fun k_ => some k_ = (.slice Ao29 t1684.length co29 : Value).ownBlock) (.slice Ao29 t1684.length co29) t1684 t1687 w _ ?side1 ?side2 A12.out).mono ?_); (case side1 => repeat (first | (with_reducible first | exact HB.out | apply below_alloc | apply pw_below_drewN | apply below_drew1 | refine below_set ?_ GE1664.out) | exact HB.out)); (case side2 => exact Kd.R_tight rfl HO1686.out); rintro e w30 ⟨rfl, hy0, hb, hkp⟩; refine ⟨_, rfl, ?_⟩; have n0_ := Aside0.mk (blk_kept (by (with_reducible repeat (first | refine blk_drewN ?_ _ | refine blk_drew ?_ | refine blk_alloc ?_ _)); exact BK1664.out) hkp (fun hs_ => (fun e_ => (Kd.R_ne HO1686.out BK1664.out (by decide)) e_) hs_)); have n1_ := Aside0.mk (Kd.R_mono (ok' := fun k_ => some k_ ≠ (.slice Ao29 t1684.length co29 : Value).ownBlock) (Kd.R_keptB (HO1679.out) hkp (fun k_ hk_ hs_ => (hk_.2) hs_)) (fun k_ hk_ => hk_.1.2)); have n2_ := Aside0.mk (Kd.N_mono (ok' := fun k_ => some k_ ≠ (v1678 : Value).ownBlock ∧ some k_ ≠ (.slice Ao29 t1684.length co29 : Value).ownBlock ∧ k_ ≠ gb1664) (Kd.N_keptB (HO1683.out) hkp (fun k_ hk_ hs_ => (hk_.2) hs_)) (fun k_ hk_ => ⟨hk_.1.1.1, hk_.1.2, hk_.1.1.2⟩)); have n3_ := Aside0.mk (Kd.R_reok rfl hy0 (fun k_ e_ => HO1686.out.1 k_ e_)); have n4_ := Aside0.mk (hb); clear BK1664; clear HO1679; clear HO1683; clear HO1686; clear HB; have BK1664 := n0_; have HO1679 := n1_; have HO1683 := n2_; have HO1686 := n3_; have HB := n4_; clear n0_ n1_ n2_ n3_ n4_; (try clear hb); (try clear hkp); (try clear hy0)) | ((with_reducible refine gate_callee (f := 91) rfl ?_); refine goesL_ (some 51) rfl rfl Tryz.func91 (by kernel_rfl) rfl #[.slice Ao29 t1684.length co29] rfl (by (try simp only [List.map_toArray, List.map_cons, List.map_nil]); first | done | rfl | (simp only [List.length_drop, List.length_take]; rfl)) ?_; (with_reducible refine (api_Primes_int_91.calls (fun k_ => some k_ = (.slice Ao29 t1684.length co29 : Value).ownBlock) (.slice Ao29 t1684.length co29) t1687 t1688 w _ ?side1 ?side2 A13.out).mono ?_); (case side1 => repeat (first | (with_reducible first | exact HB.out | apply below_alloc | apply pw_below_drewN | apply below_drew1 | refine below_set ?_ GE1664.out) | exact HB.out)); (case side2 => exact Kd.R_tight rfl HO1686.out); rintro e w31 ⟨v1689, rfl, ho0, hb, hkp⟩; refine ⟨_, rfl, ?_⟩; have n0_ := Aside0.mk (blk_kept (by (with_reducible repeat (first | refine blk_drewN ?_ _ | refine blk_drew ?_ | refine blk_alloc ?_ _)); exact BK1664.out) hkp (fun hs_ => (fun e_ => (Kd.R_ne HO1686.out BK1664.out (by decide)) e_) hs_)); have n1_ := Aside0.mk (Kd.R_mono (ok' := fun k_ => some k_ ≠ (v1689 : Value).ownBlock) (Kd.R_keptB (HO1679.out) hkp (fun k_ hk_ hs_ => (hk_) hs_)) (fun k_ hk_ => fun e_ => Or.elim (ho0.1 k_ e_.symm) (fun hs_ => hk_.2.1 hs_) (fun hn_ => Nat.not_le.2 hk_.2.2 hn_))); have n2_ := Aside0.mk (Kd.N_mono (ok' := fun k_ => some k_ ≠ (v1678 : Value).ownBlock ∧ k_ ≠ gb1664 ∧ some k_ ≠ (v1689 : Value).ownBlock) (Kd.N_keptB (HO1683.out) hkp (fun k_ hk_ hs_ => (hk_.2.1) hs_)) (fun k_ hk_ => ⟨hk_.1.1, hk_.1.2.2, fun e_ => Or.elim (ho0.1 k_ e_.symm) (fun hs_ => hk_.2.1 hs_) (fun hn_ => Nat.not_le.2 hk_.2.2 hn_)⟩)); have n3_ := Aside0.mk (Kd.R_mono (ok' := fun k_ => some k_ ≠ (v1678 : Value).ownBlock) ho0 (fun k_ hk_ => Or.elim hk_ (fun hs_ => fun e_ => (((HO1679.out).1 k_ e_.symm)) hs_) (fun hn_ => (Kd.fresh' (Kd.R_lt (by (with_reducible repeat (first | apply Kd.R_alloc | apply Kd.R_drewN | apply Kd.R_drew)); exact HO1679.out)) k_ hn_)))); have n4_ := Aside0.mk (hb); clear BK1664; clear HO1679; clear HO1683; clear HB; clear HO1686; have BK1664 := n0_; have HO1679 := n1_; have HO1683 := n2_; have HO1690 := n3_; have HB := n4_; clear n0_ n1_ n2_ n3_ n4_; (try clear hb); (try clear hkp); (try clear ho0)))
    (try simp only [Act.put, List.setIfInBounds_toArray, List.set_cons_zero, List.set_cons_succ])
    go_cut [74] (fun v74 wc => ∃ (kq : Nat) (x74_13 : Bool), v74 = .bool x74_13 ∧ Aside0 (schismalaw11_PrimeJoins.j0 kq t1677 t1680 t1688 x74_13 = some r) ∧ Aside0 (kq ≤ k) ∧ Aside0 (Kd.R (Kd.int .i64) 3 wc w.heap.size (fun k_ => some k_ ≠ (v1689 : Value).ownBlock) v1678 t1677) ∧ Aside0 (Kd.R (Kd.int .i64) 3 wc w.heap.size (fun k_ => some k_ ≠ (v1678 : Value).ownBlock) v1689 t1688) ∧ Aside0 (wc.heap[gb1664]? = some (.cells #[.int .u16 a0_0, .int .u16 a0_1] 88 (0, 0))) ∧ Aside0 (Below w.heap.size w wc))
    case first =>
      have H := HC14.out
      clear HC14
      by_cases c32 : (t1673 != (decide (t1674 ≥ 0))) = true
      · rw [if_pos c32] at H
        have c32b0 : (t1673 != (decide (t1674 ≥ 0))) = true := c32
        (try (have c32b1 : decide (t1673 = (decide (t1674 ≥ 0))) = false := by simpa using c32))
        (try (have c32b2 : (t1673 == (decide (t1674 ≥ 0))) = false := by simpa using c32))
        (try (have c32b3 : ¬ (t1673 = (decide (t1674 ≥ 0))) := by simpa using c32))
        clear c32
        (first | rw [c32b0] | (simp only [i64_w, i32_w]; rw [c32b0]) | skip)
        exact (schismalaw11_PrimeJoins.j0_no H hr).elim
      · rw [if_neg c32] at H
        have c32b0 : (t1673 != (decide (t1674 ≥ 0))) = false := by simpa using c32
        (try (have c32b1 : decide (t1673 = (decide (t1674 ≥ 0))) = true := by simpa using c32))
        (try (have c32b2 : (t1673 == (decide (t1674 ≥ 0))) = true := by simpa using c32))
        clear c32
        (first | rw [c32b0] | (simp only [i64_w, i32_w]; rw [c32b0]) | skip)
        obtain ⟨ji33, hji33⟩ : ∃ j_ : Int, (mx t1674 0) = j_ := ⟨_, rfl⟩
        replace H : (if t1672 = (ji33) then (if t1676 = 0 then (schismalaw11_PrimeJoins.j0 k t1677 t1680 t1688 (t1675 != ((t1688.length : Int) == (t1669.length : Int)))) else (schismalaw11_PrimeJoins.j0 k t1677 t1680 t1688 true)) else (schismalaw11_PrimeJoins.j0 k t1677 t1680 t1688 true)) = some r := by first | (rw [hji33] at H; exact H) | (simp only [hji33] at H ⊢; exact H)
        (try (have hji33l : 0 ≤ ji33 := by (rw [← hji33]; unfold mx; (repeat' split) <;> omega)))
        (try (have hji33m : 0 ≤ ji33 := by omega))
        have hji33_ : (if t1674 < 0 then 0 else t1674) = ji33 := hji33
        by_cases c34 : t1672 = (ji33)
        · rw [if_pos c34] at H
          have c34b0 : (t1672 == (ji33)) = true := beq_iff_eq.mpr c34
          have c34b1 : (t1672 != (ji33)) = false := bne_eq_false_iff_eq.mpr c34
          clear c34
          by_cases c35 : t1676 = 0
          · rw [if_pos c35] at H
            have c35b0 : (t1676 == 0) = true := beq_iff_eq.mpr c35
            have c35b1 : (t1676 != 0) = false := bne_eq_false_iff_eq.mpr c35
            clear c35
            have H' := Aside0.mk H
            clear H
            obtain ⟨Ao36, co36, eo36⟩ := Kd.R_slice HO1690.out
            subst eo36
            go_wp2
            go_meet
            case rel => exact ⟨_, ((t1675 != ((t1688.length : Int) == (t1669.length : Int)))), (by first | rfl | (simp; done) | (simp [*]; done)), H', ⟨by first | omega | exact Nat.le_refl _⟩, ⟨by (with_reducible repeat (first | apply Kd.R_alloc | apply Kd.R_drewN | apply Kd.R_drew)); exact HO1679.out⟩, ⟨by (with_reducible repeat (first | apply Kd.R_alloc | apply Kd.R_drewN | apply Kd.R_drew)); exact HO1690.out⟩, ⟨by (with_reducible repeat (first | refine blk_drewN ?_ _ | refine blk_drew ?_ | refine blk_alloc ?_ _)); exact BK1664.out⟩, ⟨by repeat (first | (with_reducible first | exact HB.out | apply below_alloc | apply pw_below_drewN | apply below_drew1 | refine below_set ?_ GE1664.out) | exact HB.out)⟩⟩
          · rw [if_neg c35] at H
            have c35b0 : (t1676 == 0) = false := beq_eq_false_iff_ne.mpr c35
            have c35b1 : (t1676 != 0) = true := bne_iff_ne.mpr c35
            exact (schismalaw11_PrimeJoins.j0_no H hr).elim
        · rw [if_neg c34] at H
          have c34b0 : (t1672 == (ji33)) = false := beq_eq_false_iff_ne.mpr c34
          have c34b1 : (t1672 != (ji33)) = true := bne_iff_ne.mpr c34
          exact (schismalaw11_PrimeJoins.j0_no H hr).elim
    case rest =>
      clear HC14
      try clear c1
      try clear p2
      try clear c3
      try clear c4
      try clear c5
      try clear c6
      try clear c7
      try clear c8
      try clear c9
      try clear c18
      try clear c32
      try clear c32b0
      try clear c32b1
      try clear c32b2
      try clear c34
      try clear c34b0
      try clear c34b1
      try clear c35
      try clear c35b0
      try clear c35b1
      obtain ⟨kq, x74_13, rfl, HA, HJ13, HO_12, HO_14, BK1664, HB⟩ := hcut
      cases kq with
      | zero => exact absurd HA.out (by simp [schismalaw11_PrimeJoins.j0])
      | succ kj13 =>
        have H := HA.out
        clear HA
        simp only [schismalaw11_PrimeJoins.j0] at H
        by_cases c37 : x74_13 = true
        · subst c37
          have H1 : (some false) = some r := by rw [if_pos rfl] at H; exact H
          clear H
          have H := H1
          clear H1
          exact absurd ((Option.some.inj H).trans hr) Bool.false_ne_true
        · replace c37 := Bool.eq_false_iff.mpr c37
          subst c37
          have H1 : (if (t1688.length : Int) > 6 then (if t1680 = 4 then (some ((t1677.length : Int) == 0)) else (some false)) else (if t1680 = 0 then ((api_Primes_int_63.f kj13 t1677 t1688).bind fun t1691 => (some t1691)) else (some false))) = some r := by rw [if_neg (show ¬ (false = true) by decide)] at H; exact H
          clear H
          have H := H1
          clear H1
          by_cases c38 : (t1688.length : Int) > 6
          · rw [if_pos c38] at H
            have c38b0 : decide (6 < (t1688.length : Int)) = true := decide_eq_true c38
            have c38b1 : decide (6 < t1688.length) = true := decide_eq_true (by omega)
            clear c38
            by_cases c39 : t1680 = 4
            · rw [if_pos c39] at H
              have c39b0 : (t1680 == 4) = true := beq_iff_eq.mpr c39
              have c39b1 : (t1680 != 4) = false := bne_eq_false_iff_eq.mpr c39
              clear c39
              obtain rfl := Option.some.inj H
              obtain ⟨Ao40, co40, eo40⟩ := Kd.R_slice HO_14.out
              subst eo40
              obtain ⟨Ao41, co41, eo41⟩ := Kd.R_slice HO_12.out
              subst eo41
              go_wp2
              go_ret
              exact ⟨by first | rfl | (simp [errW_none, errW_some] <;> rfl) | (simp [*, errW_none, errW_some] <;> rfl), by repeat (first | (with_reducible first | exact HB.out | apply below_alloc | apply pw_below_drewN | apply below_drew1 | refine below_set ?_ GE1664.out) | exact HB.out)⟩
            · rw [if_neg c39] at H
              have c39b0 : (t1680 == 4) = false := beq_eq_false_iff_ne.mpr c39
              have c39b1 : (t1680 != 4) = true := bne_iff_ne.mpr c39
              exact absurd ((Option.some.inj H).trans hr) Bool.false_ne_true
          · rw [if_neg c38] at H
            have c38b0 : decide (6 < (t1688.length : Int)) = false := decide_eq_false c38
            have c38b1 : decide (6 < t1688.length) = false := decide_eq_false (by omega)
            clear c38
            by_cases c43 : t1680 = 0
            · rw [if_pos c43] at H
              have c43b0 : (t1680 == 0) = true := beq_iff_eq.mpr c43
              have c43b1 : (t1680 != 0) = false := bne_eq_false_iff_eq.mpr c43
              clear c43
              replace H := Option.bind_eq_some_iff.mp H
              obtain ⟨t1691, A440, H⟩ := H
              replace H : (some t1691) = some r := H
              have A44 := Aside0.mk A440
              clear A440
              obtain rfl := Option.some.inj H
              obtain ⟨Ao45, co45, eo45⟩ := Kd.R_slice HO_14.out
              subst eo45
              obtain ⟨Ao46, co46, eo46⟩ := Kd.R_slice HO_12.out
              subst eo46
              go_wp2_with (first | (go_at_call 63; (with_reducible refine (api_Primes_int_63.calls kj13 _ _ t1677 _ _ t1688 t1691 _ ?side1 ?side2 ?side3 ?side4 A44.out).mono ?_); (case side1 => repeat (first | exact (Kd.R_reads' HO_12.out).2.2 | (with_reducible refine Kd.C_alloc ?_ _) | (with_reducible refine Kd.C_drewN ?_ _) | (with_reducible refine Kd.C_drew ?_))); (case side2 => exact (Kd.R_reads' HO_12.out).2.1); (case side3 => repeat (first | exact (Kd.R_reads' HO_14.out).2.2 | (with_reducible refine Kd.C_alloc ?_ _) | (with_reducible refine Kd.C_drewN ?_ _) | (with_reducible refine Kd.C_drew ?_))); (case side4 => exact (Kd.R_reads' HO_14.out).2.1); rintro e w' ⟨rfl, ⟨nd, rfl⟩⟩))
              go_ret
              exact ⟨by first | rfl | (simp [errW_none, errW_some] <;> rfl) | (simp [*, errW_none, errW_some] <;> rfl), by repeat (first | (with_reducible first | exact HB.out | apply below_alloc | apply pw_below_drewN | apply below_drew1 | refine below_set ?_ GE1664.out) | exact HB.out)⟩
            · rw [if_neg c43] at H
              have c43b0 : (t1680 == 0) = false := beq_eq_false_iff_ne.mpr c43
              have c43b1 : (t1680 != 0) = true := bne_iff_ne.mpr c43
              exact absurd ((Option.some.inj H).trans hr) Bool.false_ne_true
  · replace c4 := Bool.eq_false_iff.mpr c4
    subst c4
    have H1 : (some false) = some r := by rw [if_neg (show ¬ (false = true) by decide)] at H; exact H
    clear H
    have H := H1
    clear H1
    exact absurd ((Option.some.inj H).trans hr) Bool.false_ne_true
end Go.Proofs.YtccebdpjdpjgnaaGreatDoor.P
