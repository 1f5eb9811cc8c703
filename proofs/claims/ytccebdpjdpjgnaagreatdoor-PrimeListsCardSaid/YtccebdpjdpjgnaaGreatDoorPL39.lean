/-
words of the walks
-/
import Derived.Test.YtccebdpjdpjgnaaGreatDoorPL36
import Derived.Test.YtccebdpjdpjgnaaGreatDoorPL38
set_option linter.unusedVariables false
set_option linter.unusedSimpArgs false
namespace Go.Proofs.YtccebdpjdpjgnaaGreatDoor.P
open Go.RowKit Go.Proofs.YtccebdpjdpjgnaaGreatDoorW.PrintWords Go.Proofs.YtccebdpjdpjgnaaGreatDoorW.PrintLast Go.Proofs.YtccebdpjdpjgnaaGreatDoorW.PrintMore
attribute [local go_sem] max2_int min2_int max_two min_two max_three min_three max_four min_four
set_option linter.unusedVariables false
set_option linter.unusedSimpArgs false
mutual
def schismalaw11_PrimeLists.j0 : Nat → List Int → Bool → Int → Int → Int → Option (Bool)
 | 0, _, _, _, _, _ => none
 | k + 1, x0, x15, x1109000, x1109001, x1109002 => if x15 = true then ((schismalaw11_known.f k).bind fun t1110 => (some t1110)) else ((prime_IsPrime.f k x1109000).bind fun t1111 => ((schismalaw11_isPrime.f k x1109000).bind fun t1112 => (if (t1111 != t1112) = true then (schismalaw11_PrimeLists.j1 k true x1109000 x1109001 x1109002) else ((prime_Check.f k x0).bind fun t1113 => ((schismalaw11_check.f k x0).bind fun t1114 => (schismalaw11_PrimeLists.j1 k (t1113 != t1114) x1109000 x1109001 x1109002))))))
def schismalaw11_PrimeLists.j1 : Nat → Bool → Int → Int → Int → Option (Bool)
 | 0, _, _, _, _ => none
 | k + 1, x30, x1109000, x1109001, x1109002 => if x30 = true then (some false) else ((prime_First.f k x1109001).bind fun bt1115 => (if x1109001 < 1 then (schismalaw11_PrimeLists.j2 k bt1115.1 bt1115.2 true x1109000 x1109001 x1109002) else (schismalaw11_PrimeLists.j2 k bt1115.1 bt1115.2 (decide (x1109001 > 6)) x1109000 x1109001 x1109002)))
def schismalaw11_PrimeLists.j2 : Nat → List Int → Int → Bool → Int → Int → Int → Option (Bool)
 | 0, _, _, _, _, _, _ => none
 | k + 1, x5, x6, x44, x1109000, x1109001, x1109002 => if x44 = true then (if x6 = 3 then (if (x5.length : Int) > 0 then (some false) else (schismalaw11_PrimeLists.j3 k x1109000 x1109001 x1109002)) else (some false)) else (if x6 = 0 then ((schismalaw11_all.f k 20).bind fun t1119 => (if 0 ≤ x1109001 then (if x1109001 ≤ (t1119.length : Int) then ((api_Primes_int_63.f k x5 (t1119.take (x1109001 : Int).toNat)).bind fun t1126 => (if t1126 = true then (schismalaw11_PrimeLists.j3 k x1109000 x1109001 x1109002) else (some false))) else (none)) else (none))) else (some false))
def schismalaw11_PrimeLists.j3 : Nat → Int → Int → Int → Option (Bool)
 | 0, _, _, _ => none
 | k + 1, x1109000, x1109001, x1109002 => (prime_UpTo.f k x1109002).bind fun bt1127 => (if x1109002 < 2 then (if bt1127.2 = 3 then (some ((bt1127.1.length : Int) == 0)) else (some false)) else (if x1109002 ≥ 17 then (if bt1127.2 = 4 then (some ((bt1127.1.length : Int) == 0)) else (some false)) else (if bt1127.2 = 0 then ((schismalaw11_all.f k x1109002).bind fun t1131 => ((api_Primes_int_63.f k bt1127.1 t1131).bind fun t1134 => (some t1134))) else (some false))))
end
def schismalaw11_PrimeLists.f (k : Nat) (l0 : List Int) (a1_0 : Int) (a1_1 : Int) (a1_2 : Int) : Option (Bool) := (schismalaw11_known.f k).bind fun t1109 => (if t1109 = true then (schismalaw11_PrimeLists.j0 k l0 (decide ((l0.length : Int) > 9)) a1_0 a1_1 a1_2) else (schismalaw11_PrimeLists.j0 k l0 true a1_0 a1_1 a1_2))
def schismalaw11_PrimeLists.T3 : Bool × List (List Nat × List Nat) := (true, [([], []), ([0], [0]), ([1], [1]), ([], []), ([3], [3]), ([4, 2], [4]), ([2, 5], [2, 5]), ([6, 5], [6]), ([7], [7]), ([8, 7, 7], [7, 8]), ([7], [7]), ([10, 9, 7], [7, 10]), ([9, 11, 7], [7, 9, 11]), ([7, 12], [7, 12])])
def schismalaw11_PrimeLists.B3 : List Nat := [0, 1, 3, 0, 8, 31, 63, 127, 255, 511, 255, 2047, 4095, 8191]
theorem schismalaw11_PrimeLists.tab3 : rtab .any (opsOf Tryz.f12 3) = schismalaw11_PrimeLists.T3 := by kernel_rfl
theorem schismalaw11_PrimeLists.bits3 : waitsOk schismalaw11_PrimeLists.T3.2 schismalaw11_PrimeLists.B3 = true := by kernel_rfl
def schismalaw11_PrimeLists.T9 : Bool × List (List Nat × List Nat) := (true, [([], []), ([0], [0]), ([1], [1]), ([2], [2]), ([2, 2], [2]), ([2], [2]), ([5, 2], [2, 5]), ([4, 6, 2], [2, 4, 6]), ([3, 7, 4, 2], [2, 3, 7]), ([8, 2], [2, 8]), ([2, 9], [2, 9])])
def schismalaw11_PrimeLists.B9 : List Nat := [0, 1, 3, 7, 7, 7, 39, 119, 255, 511, 1023]
theorem schismalaw11_PrimeLists.tab9 : rtab .any (opsOf Tryz.f12 9) = schismalaw11_PrimeLists.T9 := by kernel_rfl
theorem schismalaw11_PrimeLists.bits9 : waitsOk schismalaw11_PrimeLists.T9.2 schismalaw11_PrimeLists.B9 = true := by kernel_rfl
theorem schismalaw11_PrimeLists.j1_no {k : Nat} {x1109000 x1109001 x1109002} {r : Bool} (h : schismalaw11_PrimeLists.j1 k true x1109000 x1109001 x1109002 = some r) (e : r = true) : False := by
 subst e
 cases k <;> simp [schismalaw11_PrimeLists.j1] at h
set_option maxHeartbeats 8000000 in
set_option maxRecDepth 100000 in
theorem schismalaw11_PrimeLists.calls (k : Nat) (A0 : Option Addr) (c0 : Nat) (l0 : List Int) (a1_0 : Int) (a1_1 : Int) (a1_2 : Int) (r : Bool) (w : World) (hT : TabW w) (hr0 : Kd.C (Kd.int .i64) w A0 l0.length l0) (hc0 : l0.length ≤ c0) (h : schismalaw11_PrimeLists.f k l0 a1_0 a1_1 a1_2 = some r) (hr : r = true) (hk : ∀ k, schismalaw11_known.f k ≠ some false) :
  Calls Tryz.prog 12 #[.slice A0 l0.length c0, .agg #[.int .i64 a1_0, .int .i64 a1_1, .int .i64 a1_2]] w fun e w' => e = .returned (.bool r) ∧ Below w.heap.size w w' := by
 have hu79 := Tryz.underlying79
 have HR0 := Aside0.mk hr0
 have HC0 := Aside0.mk hc0
 clear hr0 hc0
 have HB := Aside0.mk (Below.refl w.heap.size w)
 have H : ((schismalaw11_known.f k).bind fun t1109 => (if t1109 = true then (schismalaw11_PrimeLists.j0 k l0 (decide ((l0.length : Int) > 9)) a1_0 a1_1 a1_2) else (schismalaw11_PrimeLists.j0 k l0 true a1_0 a1_1 a1_2))) = some r := h
 clear h
 have HC3 := Aside0.mk H
 clear H
 go_enter Tryz.func12, Tryz.ntmps12
 go_upto_region 1 with (first | ((with_reducible refine gate_dst (N := 3) rfl ?_); (try (refine gate_guard (by rfl) ?_; dsimp only)); refine box_event ?hg (N := 3) ?hd (cs := #[.int .i64 a1_0, .int .i64 a1_1, .int .i64 a1_2]) (t := 79) ?hr ?_; (case hd => rfl); (case hg => rfl); (case hr => first | (go_simp; done) | (go_simp; rfl)); intro gb1108 hg w4 hbox hb; have n0_ := Aside0.mk (below_step (by repeat (first | (with_reducible first | exact HB.out | apply below_alloc | apply pw_below_drewN | apply below_drew1) | exact HB.out)) hb); have n1_ := Aside0.mk (hbox); have n2_ := Aside0.mk ((by rw [hg]; exact (below_size (by repeat (first | (with_reducible first | exact HB.out | apply below_alloc | apply pw_below_drewN | apply below_drew1) | exact HB.out))) : w.heap.size ≤ gb1108)); have n3_ := Aside0.mk ((by rw [hg]; exact (below_size (by repeat (first | (with_reducible first | exact HB.out | apply below_alloc | apply pw_below_drewN | apply below_drew1) | exact HB.out))) : w.heap.size ≤ gb1108)); clear HB; have HB := n0_; have BK1108 := n1_; have GW1108 := n2_; have GE1108 := n3_; clear n0_ n1_ n2_ n3_; clear hb hbox hg))
 (try simp only [Act.put, List.setIfInBounds_toArray, List.set_cons_zero, List.set_cons_succ])
 go_cut [15] (fun v15 wc => ∃ (kq : Nat) (x15_2 : Bool), v15 = .bool x15_2 ∧ Aside0 (schismalaw11_PrimeLists.j0 kq l0 x15_2 a1_0 a1_1 a1_2 = some r) ∧ Aside0 (kq ≤ k) ∧ Aside0 (wc.heap[gb1108]? = some (.cells #[.int .i64 a1_0, .int .i64 a1_1, .int .i64 a1_2] 79 (0, 0))) ∧ Aside0 (Below w.heap.size w wc))
 case first =>
  have H := HC3.out
  clear HC3
  replace H := Option.bind_eq_some_iff.mp H
  obtain ⟨t1109, A50, H⟩ := H
  replace H : (if t1109 = true then (schismalaw11_PrimeLists.j0 k l0 (decide ((l0.length : Int) > 9)) a1_0 a1_1 a1_2) else (schismalaw11_PrimeLists.j0 k l0 true a1_0 a1_1 a1_2)) = some r := H
  have A5 := Aside0.mk A50
  clear A50
  by_cases c6 : t1109 = true
  ·subst c6
   have H1 : (schismalaw11_PrimeLists.j0 k l0 (decide ((l0.length : Int) > 9)) a1_0 a1_1 a1_2) = some r := by rw [if_pos rfl] at H; exact H
   clear H
   have H := H1
   clear H1
   have H' := Aside0.mk H
   clear H
   go_wp2_with (first | ((with_reducible refine gate_callee (f := 58) rfl ?_); refine goesL_ (some 9) rfl rfl Tryz.func58 (by kernel_rfl) rfl #[] rfl (by (try simp only [List.map_toArray, List.map_cons, List.map_nil]); first | done | rfl | (simp only [List.length_drop, List.length_take]; rfl)) ?_; (with_reducible refine (schismalaw11_known.calls k  true _ ?side1 A5.out (by first | rfl | assumption)).mono ?_); (case side1 => refine TabW.below hT ?_; repeat (first | (with_reducible first | exact HB.out | apply below_alloc | apply pw_below_drewN | apply below_drew1 | refine below_set ?_ GE1108.out) | exact HB.out)); rintro e w7 ⟨rfl, hb⟩; refine ⟨_, rfl, ?_⟩; have n0_ := Aside0.mk (blk_below (g := gb1108) (o := .cells #[.int .i64 a1_0, .int .i64 a1_1, .int .i64 a1_2] 79 (0, 0)) (by (with_reducible repeat (first | refine blk_drewN ?_ _ | refine blk_drew ?_ | refine blk_alloc ?_ _)); exact BK1108.out) hb); have n1_ := Aside0.mk (below_step (by repeat (first | (with_reducible first | exact HB.out | apply below_alloc | apply pw_below_drewN | apply below_drew1 | refine below_set ?_ GE1108.out) | exact HB.out)) hb); clear BK1108; clear HB; have BK1108 := n0_; have HB := n1_; clear n0_ n1_; (try clear hb); (try clear hb2); (try clear hk); (try clear hi)))
   go_meet
   case rel => exact ⟨_, (decide ((l0.length : Int) > 9)), (by first | rfl | (simp; done) | (simp [*]; done)), H', ⟨by first | omega | exact Nat.le_refl _⟩, ⟨by (with_reducible repeat (first | refine blk_drewN ?_ _ | refine blk_drew ?_ | refine blk_alloc ?_ _)); exact BK1108.out⟩, ⟨by repeat (first | (with_reducible first | exact HB.out | apply below_alloc | apply pw_below_drewN | apply below_drew1 | refine below_set ?_ GE1108.out) | exact HB.out)⟩⟩
  ·replace c6 := Bool.eq_false_iff.mpr c6
   subst c6
   have H1 : (schismalaw11_PrimeLists.j0 k l0 true a1_0 a1_1 a1_2) = some r := by rw [if_neg (show ¬ (false = true) by decide)] at H; exact H
   clear H
   have H := H1
   clear H1
   have H' := Aside0.mk H
   clear H
   exact absurd A5.out (hk _)
 case rest =>
  clear HC3
  try clear c1
  try clear p2
  try clear c5
  try clear c6
  obtain ⟨kq, x15_2, rfl, HA, HJ2, BK1108, HB⟩ := hcut
  cases kq with
  | zero => exact absurd HA.out (by simp [schismalaw11_PrimeLists.j0])
  | succ kj2 =>
   have H := HA.out
   clear HA
   simp only [schismalaw11_PrimeLists.j0] at H
   by_cases c9 : x15_2 = true
   ·subst c9
    have H1 : ((schismalaw11_known.f kj2).bind fun t1110 => (some t1110)) = some r := by rw [if_pos rfl] at H; exact H
    clear H
    have H := H1
    clear H1
    replace H := Option.bind_eq_some_iff.mp H
    obtain ⟨t1110, A100, H⟩ := H
    replace H : (some t1110) = some r := H
    have A10 := Aside0.mk A100
    clear A100
    obtain rfl := Option.some.inj H
    go_wp2_with (first | ((with_reducible refine gate_callee (f := 58) rfl ?_); refine goesL_ (some 16) rfl rfl Tryz.func58 (by kernel_rfl) rfl #[] rfl (by (try simp only [List.map_toArray, List.map_cons, List.map_nil]); first | done | rfl | (simp only [List.length_drop, List.length_take]; rfl)) ?_; (with_reducible refine (schismalaw11_known.calls kj2  t1110 _ ?side1 A10.out (by first | rfl | assumption)).mono ?_); (case side1 => refine TabW.below hT ?_; repeat (first | (with_reducible first | exact HB.out | apply below_alloc | apply pw_below_drewN | apply below_drew1 | refine below_set ?_ GE1108.out) | exact HB.out)); rintro e w11 ⟨rfl, hb⟩; refine ⟨_, rfl, ?_⟩; have n0_ := Aside0.mk (blk_below (g := gb1108) (o := .cells #[.int .i64 a1_0, .int .i64 a1_1, .int .i64 a1_2] 79 (0, 0)) (by (with_reducible repeat (first | refine blk_drewN ?_ _ | refine blk_drew ?_ | refine blk_alloc ?_ _)); exact BK1108.out) hb); have n1_ := Aside0.mk (below_step (by repeat (first | (with_reducible first | exact HB.out | apply below_alloc | apply pw_below_drewN | apply below_drew1 | refine below_set ?_ GE1108.out) | exact HB.out)) hb); clear BK1108; clear HB; have BK1108 := n0_; have HB := n1_; clear n0_ n1_; (try clear hb); (try clear hb2); (try clear hk); (try clear hi)))
    go_ret
    exact ⟨by first | rfl | (simp [errW_none, errW_some] <;> rfl) | (simp [*, errW_none, errW_some] <;> rfl), by repeat (first | (with_reducible first | exact HB.out | apply below_alloc | apply pw_below_drewN | apply below_drew1 | refine below_set ?_ GE1108.out) | exact HB.out)⟩
   ·replace c9 := Bool.eq_false_iff.mpr c9
    subst c9
    have H1 : ((prime_IsPrime.f kj2 a1_0).bind fun t1111 => ((schismalaw11_isPrime.f kj2 a1_0).bind fun t1112 => (if (t1111 != t1112) = true then (schismalaw11_PrimeLists.j1 kj2 true a1_0 a1_1 a1_2) else ((prime_Check.f kj2 l0).bind fun t1113 => ((schismalaw11_check.f kj2 l0).bind fun t1114 => (schismalaw11_PrimeLists.j1 kj2 (t1113 != t1114) a1_0 a1_1 a1_2)))))) = some r := by rw [if_neg (show ¬ (false = true) by decide)] at H; exact H
    clear H
    have H := H1
    clear H1
    have HC12 := Aside0.mk H
    clear H
    go_upto_region 3 with (fail)
    go_cut [30] (fun v30 wc => ∃ (kq : Nat) (x30_11 : Bool), v30 = .bool x30_11 ∧ Aside0 (schismalaw11_PrimeLists.j1 kq x30_11 a1_0 a1_1 a1_2 = some r) ∧ Aside0 (kq ≤ kj2) ∧ Aside0 (wc.heap[gb1108]? = some (.cells #[.int .i64 a1_0, .int .i64 a1_1, .int .i64 a1_2] 79 (0, 0))) ∧ Aside0 (Below w.heap.size w wc))
    case first =>
     have H := HC12.out
     clear HC12
     replace H := Option.bind_eq_some_iff.mp H
     obtain ⟨t1111, A130, H⟩ := H
     replace H : ((schismalaw11_isPrime.f kj2 a1_0).bind fun t1112 => (if (t1111 != t1112) = true then (schismalaw11_PrimeLists.j1 kj2 true a1_0 a1_1 a1_2) else ((prime_Check.f kj2 l0).bind fun t1113 => ((schismalaw11_check.f kj2 l0).bind fun t1114 => (schismalaw11_PrimeLists.j1 kj2 (t1113 != t1114) a1_0 a1_1 a1_2))))) = some r := H
     have A13 := Aside0.mk A130
     clear A130
     replace H := Option.bind_eq_some_iff.mp H
     obtain ⟨t1112, A140, H⟩ := H
     replace H : (if (t1111 != t1112) = true then (schismalaw11_PrimeLists.j1 kj2 true a1_0 a1_1 a1_2) else ((prime_Check.f kj2 l0).bind fun t1113 => ((schismalaw11_check.f kj2 l0).bind fun t1114 => (schismalaw11_PrimeLists.j1 kj2 (t1113 != t1114) a1_0 a1_1 a1_2)))) = some r := H
     have A14 := Aside0.mk A140
     clear A140
     by_cases c15 : (t1111 != t1112) = true
     ·rw [if_pos c15] at H
      have c15b0 : (t1111 != t1112) = true := c15
      (try (have c15b1 : decide (t1111 = t1112) = false := by simpa using c15))
      (try (have c15b2 : (t1111 == t1112) = false := by simpa using c15))
      (try (have c15b3 : ¬ (t1111 = t1112) := by simpa using c15))
      clear c15
      (first | rw [c15b0] | (simp only [i64_w, i32_w]; rw [c15b0]) | skip)
      exact (schismalaw11_PrimeLists.j1_no H hr).elim
     ·rw [if_neg c15] at H
      have c15b0 : (t1111 != t1112) = false := by simpa using c15
      (try (have c15b1 : decide (t1111 = t1112) = true := by simpa using c15))
      (try (have c15b2 : (t1111 == t1112) = true := by simpa using c15))
      clear c15
      (first | rw [c15b0] | (simp only [i64_w, i32_w]; rw [c15b0]) | skip)
      replace H := Option.bind_eq_some_iff.mp H
      obtain ⟨t1113, A170, H⟩ := H
      replace H : ((schismalaw11_check.f kj2 l0).bind fun t1114 => (schismalaw11_PrimeLists.j1 kj2 (t1113 != t1114) a1_0 a1_1 a1_2)) = some r := H
      have A17 := Aside0.mk A170
      clear A170
      replace H := Option.bind_eq_some_iff.mp H
      obtain ⟨t1114, A180, H⟩ := H
      replace H : (schismalaw11_PrimeLists.j1 kj2 (t1113 != t1114) a1_0 a1_1 a1_2) = some r := H
      have A18 := Aside0.mk A180
      clear A180
      have H' := Aside0.mk H
      clear H
      try go_wp2
      have n0_ := Aside0.mk (blk_drew BK1108.out)
      have n1_ := Aside0.mk (below_drew1 HB.out)
      clear BK1108
      clear HB
      have BK1108 := n0_
      have HB := n1_
      clear n0_ n1_
      refine start_ (n := 14) (S := fun w' => w'.cell? ⟨gb1108, 0, none⟩ = some (.int .i64 a1_0) ∧ w'.cell? ⟨gb1108, 1, none⟩ = some (.int .i64 a1_1) ∧ w'.cell? ⟨gb1108, 2, none⟩ = some (.int .i64 a1_2)) (ds := []) #[false, false, false, false, false, false, false, false, false, false, false, false, false, false] (by kernel_rfl) rfl rfl ⟨(blk_cell BK1108.out 0).trans rfl, (blk_cell BK1108.out 1).trans rfl, (blk_cell BK1108.out 2).trans rfl⟩ (fun hHeld => ?_); refine with_tabW schismalaw11_PrimeLists.tab3 schismalaw11_PrimeLists.bits3 (fun HT_ HW_ => ?_)
      generalize wc.drew = w19 at BK1108 HB hHeld ⊢
      refine pure_ (i := 0) (N := some 17) (v := ?_) (a' := ?_) #[true, false, false, false, false, false, false, false, false, false, false, false, false, false] rfl rfl (any_of HT_.out (by kernel_rfl)) (fun _ _ _ h => h) (Or.inl ⟨by rfl, ?_⟩) ?_ ?_
      rotate_left
      ·intro w'
       go_simp
       with_reducible rfl
      rotate_left
      ·simp only [Act.put, List.setIfInBounds_toArray, List.set_cons_zero, List.set_cons_succ, i64_w, i32_w]
       rfl
      refine pure_ (i := 3) (N := some 20) (v := ?_) (a' := ?_) #[true, false, false, true, false, false, false, false, false, false, false, false, false, false] rfl rfl (any_of HT_.out (by kernel_rfl)) (fun _ _ _ h => h) (Or.inl ⟨by rfl, ?_⟩) ?_ ?_
      rotate_left
      ·intro w'
       go_simp
       with_reducible rfl
      rotate_left
      ·simp only [Act.put, List.setIfInBounds_toArray, List.set_cons_zero, List.set_cons_succ, i64_w, i32_w]
       rfl
      refine take_ (i := 1) (N := some 18) (v := ?_) (a' := ?_) #[true, true, false, true, false, false, false, false, false, false, false, false, false, false] rfl rfl (take_ofW HT_.out HW_.out (by kernel_rfl)) (fun _ _ _ h => h) (Or.inl ⟨by rfl, ?_⟩) hHeld ?_ ?_
      rotate_left
      ·rintro w' ⟨s0, s1, s2⟩
       go_simp
       with_reducible rfl
      rotate_left
      ·simp only [Act.put, List.setIfInBounds_toArray, List.set_cons_zero, List.set_cons_succ, i64_w, i32_w]
       rfl
      refine take_ (i := 4) (N := some 21) (v := ?_) (a' := ?_) #[true, true, false, true, true, false, false, false, false, false, false, false, false, false] rfl rfl (take_ofW HT_.out HW_.out (by kernel_rfl)) (fun _ _ _ h => h) (Or.inl ⟨by rfl, ?_⟩) hHeld ?_ ?_
      rotate_left
      ·rintro w' ⟨s0, s1, s2⟩
       go_simp
       with_reducible rfl
      rotate_left
      ·simp only [Act.put, List.setIfInBounds_toArray, List.set_cons_zero, List.set_cons_succ, i64_w, i32_w]
       rfl
      refine one_ (i := 2) (N := some 19) #[true, true, true, true, true, false, false, false, false, false, false, false, false, false] rfl rfl (one_of HT_.out (by kernel_rfl)) (by decide) (fun K hK => ?_)
      refine goes_ Tryz.func59 (by kernel_rfl) rfl #[.int .i64 a1_0] (by rfl) rfl rfl (by (try simp only [List.map_toArray, List.map_cons, List.map_nil]); first | done | rfl | (simp only [List.length_drop, List.length_take]; rfl)) ?_
      with_reducible refine (prime_IsPrime.calls kj2 a1_0 t1111 _ A13.out).mono ?_
      rintro e w' ⟨rfl, ⟨nd, rfl⟩⟩
      refine ⟨_, rfl, ?_⟩
      refine hK.out _ _ ⟨(blk_cell BK1108.out 0).trans rfl, (blk_cell BK1108.out 1).trans rfl, (blk_cell BK1108.out 2).trans rfl⟩ (fun hHeld => ?_)
      clear hK K
      refine norm_ (a' := ?_) ?_ ?_
      rotate_left
      ·show Act.put _ (some 19) _ = _
       simp only [Act.put, List.setIfInBounds_toArray, List.set_cons_zero, List.set_cons_succ, i64_w, i32_w]
       rfl
      refine one_ (i := 5) (N := some 22) #[true, true, true, true, true, true, false, false, false, false, false, false, false, false] rfl rfl (one_of HT_.out (by kernel_rfl)) (by decide) (fun K hK => ?_)
      refine goes_ Tryz.func60 (by kernel_rfl) rfl #[.int .i64 a1_0] (by rfl) rfl rfl (by (try simp only [List.map_toArray, List.map_cons, List.map_nil]); first | done | rfl | (simp only [List.length_drop, List.length_take]; rfl)) ?_
      with_reducible refine (schismalaw11_isPrime.calls kj2 a1_0 t1112 _ A14.out).mono ?_
      rintro e w' ⟨rfl, ⟨nd, rfl⟩⟩
      refine ⟨_, rfl, ?_⟩
      refine hK.out _ _ ⟨(blk_cell BK1108.out 0).trans rfl, (blk_cell BK1108.out 1).trans rfl, (blk_cell BK1108.out 2).trans rfl⟩ (fun hHeld => ?_)
      clear hK K
      refine norm_ (a' := ?_) ?_ ?_
      rotate_left
      ·show Act.put _ (some 22) _ = _
       simp only [Act.put, List.setIfInBounds_toArray, List.set_cons_zero, List.set_cons_succ, i64_w, i32_w]
       rfl
      refine pure_ (i := 6) (N := some 23) (v := ?_) (a' := ?_) #[true, true, true, true, true, true, true, false, false, false, false, false, false, false] rfl rfl (any_of HT_.out (by kernel_rfl)) (fun _ _ _ h => h) (Or.inl ⟨by rfl, ?_⟩) ?_ ?_
      rotate_left
      ·intro w'
       go_simp
       with_reducible rfl
      rotate_left
      ·simp only [Act.put, List.setIfInBounds_toArray, List.set_cons_zero, List.set_cons_succ, i64_w, i32_w]
       rfl
      refine pure_ (i := 7) (N := some 24) (v := ?_) (a' := ?_) #[true, true, true, true, true, true, true, true, false, false, false, false, false, false] rfl rfl (any_of HT_.out (by kernel_rfl)) (fun _ _ _ h => h) (Or.inl ⟨by rfl, ?_⟩) ?_ ?_
      rotate_left
      ·intro w'
       go_simp
       with_reducible rfl
      rotate_left
      ·simp only [Act.put, List.setIfInBounds_toArray, List.set_cons_zero, List.set_cons_succ, i64_w, i32_w]
       rfl
      refine pure_ (i := 8) (N := some 25) (v := ?_) (a' := ?_) #[true, true, true, true, true, true, true, true, true, false, false, false, false, false] rfl rfl (any_of HT_.out (by kernel_rfl)) (fun _ _ _ h => h) (Or.inl ⟨by rfl, ?_⟩) ?_ ?_
      rotate_left
      ·intro w'
       go_simp
       with_reducible rfl
      rotate_left
      ·simp only [Act.put, List.setIfInBounds_toArray, List.set_cons_zero, List.set_cons_succ, i64_w, i32_w]
       rfl
      refine pure_ (i := 10) (N := some 27) (v := ?_) (a' := ?_) #[true, true, true, true, true, true, true, true, true, false, true, false, false, false] rfl rfl (any_of HT_.out (by kernel_rfl)) (fun _ _ _ h => h) (Or.inl ⟨by rfl, ?_⟩) ?_ ?_
      rotate_left
      ·intro w'
       go_simp
       with_reducible rfl
      rotate_left
      ·simp only [Act.put, List.setIfInBounds_toArray, List.set_cons_zero, List.set_cons_succ, i64_w, i32_w]
       rfl
      refine one_ (i := 9) (N := some 26) #[true, true, true, true, true, true, true, true, true, true, true, false, false, false] rfl rfl (one_of HT_.out (by kernel_rfl)) (by decide) (fun K hK => ?_)
      refine goes_ Tryz.func29 (by kernel_rfl) rfl #[.slice A0 l0.length c0] (by rfl) rfl rfl (by (try simp only [List.map_toArray, List.map_cons, List.map_nil]); first | done | rfl | (simp only [List.length_drop, List.length_take]; rfl)) ?_
      with_reducible refine (prime_Check.calls kj2 _ _ l0 t1113 _ ?side1 ?side2 A17.out).mono ?_
      (case side1 => repeat (first | exact (Kd.C_below HR0.out (by repeat (first | (with_reducible first | exact HB.out | apply below_alloc | apply pw_below_drewN | apply below_drew1 | refine below_set ?_ GE1108.out) | exact HB.out))) | (with_reducible refine Kd.C_alloc ?_ _) | (with_reducible refine Kd.C_drewN ?_ _) | (with_reducible refine Kd.C_drew ?_)))
      (case side2 => exact HC0.out)
      rintro e w' ⟨rfl, ⟨nd, rfl⟩⟩
      refine ⟨_, rfl, ?_⟩
      refine hK.out _ _ ⟨(blk_cell BK1108.out 0).trans rfl, (blk_cell BK1108.out 1).trans rfl, (blk_cell BK1108.out 2).trans rfl⟩ (fun hHeld => ?_)
      clear hK K
      refine norm_ (a' := ?_) ?_ ?_
      rotate_left
      ·show Act.put _ (some 26) _ = _
       simp only [Act.put, List.setIfInBounds_toArray, List.set_cons_zero, List.set_cons_succ, i64_w, i32_w]
       rfl
      refine one_ (i := 11) (N := some 28) #[true, true, true, true, true, true, true, true, true, true, true, true, false, false] rfl rfl (one_of HT_.out (by kernel_rfl)) (by decide) (fun K hK => ?_)
      refine goes_ Tryz.func61 (by kernel_rfl) rfl #[.slice A0 l0.length c0] (by rfl) rfl rfl (by (try simp only [List.map_toArray, List.map_cons, List.map_nil]); first | done | rfl | (simp only [List.length_drop, List.length_take]; rfl)) ?_
      with_reducible refine (schismalaw11_check.calls kj2 _ _ l0 t1114 _ ?side1 ?side2 A18.out).mono ?_
      (case side1 => repeat (first | exact (Kd.C_below HR0.out (by repeat (first | (with_reducible first | exact HB.out | apply below_alloc | apply pw_below_drewN | apply below_drew1 | refine below_set ?_ GE1108.out) | exact HB.out))) | (with_reducible refine Kd.C_alloc ?_ _) | (with_reducible refine Kd.C_drewN ?_ _) | (with_reducible refine Kd.C_drew ?_)))
      (case side2 => exact HC0.out)
      rintro e w' ⟨rfl, ⟨nd, rfl⟩⟩
      refine ⟨_, rfl, ?_⟩
      refine hK.out _ _ ⟨(blk_cell BK1108.out 0).trans rfl, (blk_cell BK1108.out 1).trans rfl, (blk_cell BK1108.out 2).trans rfl⟩ (fun hHeld => ?_)
      clear hK K
      refine norm_ (a' := ?_) ?_ ?_
      rotate_left
      ·show Act.put _ (some 28) _ = _
       simp only [Act.put, List.setIfInBounds_toArray, List.set_cons_zero, List.set_cons_succ, i64_w, i32_w]
       rfl
      refine pure_ (i := 12) (N := some 29) (v := ?_) (a' := ?_) #[true, true, true, true, true, true, true, true, true, true, true, true, true, false] rfl rfl (any_of HT_.out (by kernel_rfl)) (fun _ _ _ h => h) (Or.inl ⟨by rfl, ?_⟩) ?_ ?_
      rotate_left
      ·intro w'
       go_simp
       with_reducible rfl
      rotate_left
      ·simp only [Act.put, List.setIfInBounds_toArray, List.set_cons_zero, List.set_cons_succ, i64_w, i32_w]
       rfl
      refine pure_ (i := 13) (N := some 30) (v := ?_) (a' := ?_) #[true, true, true, true, true, true, true, true, true, true, true, true, true, true] rfl rfl (any_of HT_.out (by kernel_rfl)) (fun _ _ _ h => h) (Or.inl ⟨by rfl, ?_⟩) ?_ ?_
      rotate_left
      ·intro w'
       go_simp
       with_reducible rfl
      rotate_left
      ·simp only [Act.put, List.setIfInBounds_toArray, List.set_cons_zero, List.set_cons_succ, i64_w, i32_w]
       rfl
      refine done_ (done_of HT_.out (by kernel_rfl)) ?_
      try go_wp2
      go_meet
      case rel => exact ⟨_, ((t1113 != t1114)), (by first | rfl | (simp; done) | (simp [*]; done)), H', ⟨by have := HJ2.out; first | omega | exact Nat.le_refl _⟩, ⟨by (with_reducible repeat (first | refine blk_drewN ?_ _ | refine blk_drew ?_ | refine blk_alloc ?_ _)); exact BK1108.out⟩, ⟨by repeat (first | (with_reducible first | exact HB.out | apply below_alloc | apply pw_below_drewN | apply below_drew1 | refine below_set ?_ GE1108.out) | exact HB.out)⟩⟩
    case rest =>
     clear HC12
     try clear c1
     try clear c2
     try clear p2
     try clear c5
     try clear c6
     try clear c9
     try clear c12
     try clear c15
     try clear c15b0
     try clear c15b1
     try clear c15b2
     try clear p2
     obtain ⟨kq, x30_11, rfl, HA, HJ11, BK1108, HB⟩ := hcut
     cases kq with
     | zero => exact absurd HA.out (by simp [schismalaw11_PrimeLists.j1])
     | succ kj11 =>
      have H := HA.out
      clear HA
      simp only [schismalaw11_PrimeLists.j1] at H
      by_cases c20 : x30_11 = true
      ·subst c20
       have H1 : (some false) = some r := by rw [if_pos rfl] at H; exact H
       clear H
       have H := H1
       clear H1
       exact absurd ((Option.some.inj H).trans hr) Bool.false_ne_true
      ·replace c20 := Bool.eq_false_iff.mpr c20
       subst c20
       have H1 : ((prime_First.f kj11 a1_1).bind fun bt1115 => (if a1_1 < 1 then (schismalaw11_PrimeLists.j2 kj11 bt1115.1 bt1115.2 true a1_0 a1_1 a1_2) else (schismalaw11_PrimeLists.j2 kj11 bt1115.1 bt1115.2 (decide (a1_1 > 6)) a1_0 a1_1 a1_2))) = some r := by rw [if_neg (show ¬ (false = true) by decide)] at H; exact H
       clear H
       have H := H1
       clear H1
       replace H := Option.bind_eq_some_iff.mp H
       obtain ⟨⟨t1115, t1118⟩, A210, H⟩ := H
       replace H : (if a1_1 < 1 then (schismalaw11_PrimeLists.j2 kj11 t1115 t1118 true a1_0 a1_1 a1_2) else (schismalaw11_PrimeLists.j2 kj11 t1115 t1118 (decide (a1_1 > 6)) a1_0 a1_1 a1_2)) = some r := H
       have A21 := Aside0.mk A210
       clear A210
       have HC22 := Aside0.mk H
       clear H
       have hcz23_0 : wc.cell? ⟨gb1108, 0, none⟩ = some (.int .i64 a1_0) := (blk_cell BK1108.out 0).trans rfl
       have hcz23_1 : wc.cell? ⟨gb1108, 1, none⟩ = some (.int .i64 a1_1) := (blk_cell BK1108.out 1).trans rfl
       have hcz23_2 : wc.cell? ⟨gb1108, 2, none⟩ = some (.int .i64 a1_2) := (blk_cell BK1108.out 2).trans rfl
       have hfz23_0 := blk_frozen BK1108.out 0
       have hfz23_1 := blk_frozen BK1108.out 1
       have hfz23_2 := blk_frozen BK1108.out 2
       go_upto_region 6 with (first | ((with_reducible refine gate_callee (f := 62) rfl ?_); refine goesL_ (some 34) rfl rfl Tryz.func62 (by kernel_rfl) rfl #[.int .i64 a1_1] rfl (by (try simp only [List.map_toArray, List.map_cons, List.map_nil]); first | done | rfl | (simp only [List.length_drop, List.length_take]; rfl)) ?_; (with_reducible refine (prime_First.calls kj11 a1_1 t1115 t1118 _ ?side1 A21.out).mono ?_); (case side1 => refine TabW.below hT ?_; repeat (first | (with_reducible first | exact HB.out | apply below_alloc | apply pw_below_drewN | apply below_drew1 | refine below_set ?_ GE1108.out) | exact HB.out)); rintro e w24 ⟨v1116, rfl, ho0, hb⟩; refine ⟨_, rfl, ?_⟩; have n0_ := Aside0.mk (Kd.V_lower (Kd.V_mono (ok' := fun k_ => k_ ≠ gb1108) ho0 (fun k_ hk_ => (Kd.freshB (g := gb1108) (o := .cells #[.int .i64 a1_0, .int .i64 a1_1, .int .i64 a1_2] 79 (0, 0)) (by (with_reducible repeat (first | refine blk_drewN ?_ _ | refine blk_drew ?_ | refine blk_alloc ?_ _)); exact BK1108.out) k_ hk_))) (below_size (by repeat (first | (with_reducible first | exact HB.out | apply below_alloc | apply pw_below_drewN | apply below_drew1 | refine below_set ?_ GE1108.out) | exact HB.out)))); have n1_ := Aside0.mk (blk_below (g := gb1108) (o := .cells #[.int .i64 a1_0, .int .i64 a1_1, .int .i64 a1_2] 79 (0, 0)) (by (with_reducible repeat (first | refine blk_drewN ?_ _ | refine blk_drew ?_ | refine blk_alloc ?_ _)); exact BK1108.out) hb); have n2_ := Aside0.mk (below_step (by repeat (first | (with_reducible first | exact HB.out | apply below_alloc | apply pw_below_drewN | apply below_drew1 | refine below_set ?_ GE1108.out) | exact HB.out)) hb); clear BK1108; clear HB; have HO1117 := n0_; have BK1108 := n1_; have HB := n2_; clear n0_ n1_ n2_; (try clear hb); (try clear hb2); (try clear hk); (try clear hi); (try clear ho0)))
       (try simp only [Act.put, List.setIfInBounds_toArray, List.set_cons_zero, List.set_cons_succ])
       go_cut [44] (fun v44 wc => ∃ (kq : Nat) (x44_21 : Bool), v44 = .bool x44_21 ∧ Aside0 (schismalaw11_PrimeLists.j2 kq t1115 t1118 x44_21 a1_0 a1_1 a1_2 = some r) ∧ Aside0 (kq ≤ kj11) ∧ Aside0 (Kd.V (Kd.int .i64) 3 wc w.heap.size (fun k_ => k_ ≠ gb1108) v1116 t1115) ∧ Aside0 (wc.heap[gb1108]? = some (.cells #[.int .i64 a1_0, .int .i64 a1_1, .int .i64 a1_2] 79 (0, 0))) ∧ Aside0 (Below w.heap.size w wc))
       case first =>
        have H := HC22.out
        clear HC22
        by_cases c25 : a1_1 < 1
        ·rw [if_pos c25] at H
         have c25b0 : decide (a1_1 < 1) = true := decide_eq_true c25
         clear c25
         (first | rw [c25b0] | (simp only [i64_w, i32_w]; rw [c25b0]) | skip)
         have H' := Aside0.mk H
         clear H
         have hcz26_0 : w24.cell? ⟨gb1108, 0, none⟩ = some (.int .i64 a1_0) := (blk_cell BK1108.out 0).trans rfl
         have hcz26_1 : w24.cell? ⟨gb1108, 1, none⟩ = some (.int .i64 a1_1) := (blk_cell BK1108.out 1).trans rfl
         have hcz26_2 : w24.cell? ⟨gb1108, 2, none⟩ = some (.int .i64 a1_2) := (blk_cell BK1108.out 2).trans rfl
         have hfz26_0 := blk_frozen BK1108.out 0
         have hfz26_1 := blk_frozen BK1108.out 1
         have hfz26_2 := blk_frozen BK1108.out 2
         go_wp2
         go_meet
         case rel => exact ⟨_, (true), (by first | rfl | (simp; done) | (simp [*]; done)), H', ⟨by have := HJ2.out; have := HJ11.out; first | omega | exact Nat.le_refl _⟩, ⟨by (with_reducible repeat (first | apply Kd.V_alloc | apply Kd.V_drewN | apply Kd.V_drew)); exact HO1117.out⟩, ⟨by (with_reducible repeat (first | refine blk_drewN ?_ _ | refine blk_drew ?_ | refine blk_alloc ?_ _)); exact BK1108.out⟩, ⟨by repeat (first | (with_reducible first | exact HB.out | apply below_alloc | apply pw_below_drewN | apply below_drew1 | refine below_set ?_ GE1108.out) | exact HB.out)⟩⟩
        ·rw [if_neg c25] at H
         have c25b0 : decide (a1_1 < 1) = false := decide_eq_false c25
         clear c25
         (first | rw [c25b0] | (simp only [i64_w, i32_w]; rw [c25b0]) | skip)
         have H' := Aside0.mk H
         clear H
         have hcz27_0 : w24.cell? ⟨gb1108, 0, none⟩ = some (.int .i64 a1_0) := (blk_cell BK1108.out 0).trans rfl
         have hcz27_1 : w24.cell? ⟨gb1108, 1, none⟩ = some (.int .i64 a1_1) := (blk_cell BK1108.out 1).trans rfl
         have hcz27_2 : w24.cell? ⟨gb1108, 2, none⟩ = some (.int .i64 a1_2) := (blk_cell BK1108.out 2).trans rfl
         have hfz27_0 := blk_frozen BK1108.out 0
         have hfz27_1 := blk_frozen BK1108.out 1
         have hfz27_2 := blk_frozen BK1108.out 2
         go_wp2
         go_meet
         case rel => exact ⟨_, (decide (a1_1 > 6)), (by first | rfl | (simp; done) | (simp [*]; done)), H', ⟨by have := HJ2.out; have := HJ11.out; first | omega | exact Nat.le_refl _⟩, ⟨by (with_reducible repeat (first | apply Kd.V_alloc | apply Kd.V_drewN | apply Kd.V_drew)); exact HO1117.out⟩, ⟨by (with_reducible repeat (first | refine blk_drewN ?_ _ | refine blk_drew ?_ | refine blk_alloc ?_ _)); exact BK1108.out⟩, ⟨by repeat (first | (with_reducible first | exact HB.out | apply below_alloc | apply pw_below_drewN | apply below_drew1 | refine below_set ?_ GE1108.out) | exact HB.out)⟩⟩
       case rest =>
        clear HC22
        try clear c1
        try clear c2
        try clear p2
        try clear c5
        try clear c6
        try clear c9
        try clear c12
        try clear c15
        try clear c15b0
        try clear c15b1
        try clear c15b2
        try clear c20
        try clear c25
        try clear c25b0
        try clear hcz23_0
        try clear hcz23_1
        try clear hcz23_2
        try clear hcz26_0
        try clear hcz26_1
        try clear hcz26_2
        try clear hcz27_0
        try clear hcz27_1
        try clear hcz27_2
        try clear hfz23_0
        try clear hfz23_1
        try clear hfz23_2
        try clear hfz26_0
        try clear hfz26_1
        try clear hfz26_2
        try clear hfz27_0
        try clear hfz27_1
        try clear hfz27_2
        try clear p2
        obtain ⟨kq, x44_21, rfl, HA, HJ21, HO_5, BK1108, HB⟩ := hcut
        cases kq with
        | zero => exact absurd HA.out (by simp [schismalaw11_PrimeLists.j2])
        | succ kj21 =>
         have H := HA.out
         clear HA
         simp only [schismalaw11_PrimeLists.j2] at H
         have HC28 := Aside0.mk H
         clear H
         go_upto_if 44 with (fail)
         go_cut [] (fun wc => ∃ (kq : Nat), Aside0 (schismalaw11_PrimeLists.j3 kq a1_0 a1_1 a1_2 = some r) ∧ Aside0 (kq ≤ kj21) ∧ Aside0 (wc.heap[gb1108]? = some (.cells #[.int .i64 a1_0, .int .i64 a1_1, .int .i64 a1_2] 79 (0, 0))) ∧ Aside0 (Below w.heap.size w wc))
         case first =>
          have H := HC28.out
          clear HC28
          by_cases c29 : x44_21 = true
          ·subst c29
           have H1 : (if t1118 = 3 then (if (t1115.length : Int) > 0 then (some false) else (schismalaw11_PrimeLists.j3 kj21 a1_0 a1_1 a1_2)) else (some false)) = some r := by rw [if_pos rfl] at H; exact H
           clear H
           have H := H1
           clear H1
           by_cases c30 : t1118 = 3
           ·rw [if_pos c30] at H
            have c30b0 : (t1118 == 3) = true := beq_iff_eq.mpr c30
            have c30b1 : (t1118 != 3) = false := bne_eq_false_iff_eq.mpr c30
            clear c30
            (first | rw [c30b0] | (simp only [i64_w, i32_w]; rw [c30b0]) | skip)
            by_cases c31 : (t1115.length : Int) > 0
            ·rw [if_pos c31] at H
             have c31b0 : decide (0 < (t1115.length : Int)) = true := decide_eq_true c31
             have c31b1 : decide (0 < t1115.length) = true := decide_eq_true (by omega)
             clear c31
             exact absurd ((Option.some.inj H).trans hr) Bool.false_ne_true
            ·rw [if_neg c31] at H
             have c31b0 : decide (0 < (t1115.length : Int)) = false := decide_eq_false c31
             have c31b1 : decide (0 < t1115.length) = false := decide_eq_false (by omega)
             clear c31
             have H' := Aside0.mk H
             clear H
             obtain ⟨Ao33, co33, eo33⟩ := Kd.V_slice HO_5.out
             subst eo33
             go_wp2
             go_meet
             case rel => exact ⟨_, H', ⟨by have := HJ2.out; have := HJ11.out; have := HJ21.out; first | omega | exact Nat.le_refl _⟩, ⟨by (with_reducible repeat (first | refine blk_drewN ?_ _ | refine blk_drew ?_ | refine blk_alloc ?_ _)); exact BK1108.out⟩, ⟨by repeat (first | (with_reducible first | exact HB.out | apply below_alloc | apply pw_below_drewN | apply below_drew1 | refine below_set ?_ GE1108.out) | exact HB.out)⟩⟩
           ·rw [if_neg c30] at H
            have c30b0 : (t1118 == 3) = false := beq_eq_false_iff_ne.mpr c30
            have c30b1 : (t1118 != 3) = true := bne_iff_ne.mpr c30
            (first | rw [c30b0] | (simp only [i64_w, i32_w]; rw [c30b0]) | skip)
            exact absurd ((Option.some.inj H).trans hr) Bool.false_ne_true
          ·replace c29 := Bool.eq_false_iff.mpr c29
           subst c29
           have H1 : (if t1118 = 0 then ((schismalaw11_all.f kj21 20).bind fun t1119 => (if 0 ≤ a1_1 then (if a1_1 ≤ (t1119.length : Int) then ((api_Primes_int_63.f kj21 t1115 (t1119.take (a1_1 : Int).toNat)).bind fun t1126 => (if t1126 = true then (schismalaw11_PrimeLists.j3 kj21 a1_0 a1_1 a1_2) else (some false))) else (none)) else (none))) else (some false)) = some r := by rw [if_neg (show ¬ (false = true) by decide)] at H; exact H
           clear H
           have H := H1
           clear H1
           by_cases c34 : t1118 = 0
           ·rw [if_pos c34] at H
            have c34b0 : (t1118 == 0) = true := beq_iff_eq.mpr c34
            have c34b1 : (t1118 != 0) = false := bne_eq_false_iff_eq.mpr c34
            clear c34
            replace H := Option.bind_eq_some_iff.mp H
            obtain ⟨t1119, A350, H⟩ := H
            replace H : (if 0 ≤ a1_1 then (if a1_1 ≤ (t1119.length : Int) then ((api_Primes_int_63.f kj21 t1115 (t1119.take (a1_1 : Int).toNat)).bind fun t1126 => (if t1126 = true then (schismalaw11_PrimeLists.j3 kj21 a1_0 a1_1 a1_2) else (some false))) else (none)) else (none)) = some r := H
            have A35 := Aside0.mk A350
            clear A350
            by_cases c36 : 0 ≤ a1_1
            ·rw [if_pos c36] at H
             have c36b0 := eq_true c36
             have c36b1 : decide (0 ≤ a1_1) = true := decide_eq_true c36
             clear c36
             by_cases c37 : a1_1 ≤ (t1119.length : Int)
             ·rw [if_pos c37] at H
              have c37b0 := eq_true c37
              have c37b1 : decide (a1_1 ≤ (t1119.length : Int)) = true := decide_eq_true c37
              clear c37
              obtain ⟨y1122, hy1122⟩ : ∃ y_ : List Int, y_ = (t1119.take (a1_1 : Int).toNat) := ⟨_, rfl⟩
              replace H : ((api_Primes_int_63.f kj21 t1115 y1122).bind fun t1126 => (if t1126 = true then (schismalaw11_PrimeLists.j3 kj21 a1_0 a1_1 a1_2) else (some false))) = some r := by first | (rw [hy1122]; with_reducible exact H) | (have H2_ := (Option.bind_some _ _).symm.trans H; rw [hy1122]; with_reducible exact H2_) | (have H2_ := (Option.bind_some _ _).symm.trans H; with_reducible exact H2_) | with_reducible exact H | (rw [hy1122]; exact H) | exact H
              have Ny1122 := Aside0.mk hy1122
              clear hy1122
              replace H := Option.bind_eq_some_iff.mp H
              obtain ⟨t1126, A380, H⟩ := H
              replace H : (if t1126 = true then (schismalaw11_PrimeLists.j3 kj21 a1_0 a1_1 a1_2) else (some false)) = some r := H
              have A38 := Aside0.mk A380
              clear A380
              by_cases c39 : t1126 = true
              ·subst c39
               have H1 : (schismalaw11_PrimeLists.j3 kj21 a1_0 a1_1 a1_2) = some r := by rw [if_pos rfl] at H; exact H
               clear H
               have H := H1
               clear H1
               have H' := Aside0.mk H
               clear H
               try go_wp2
               have n0_ := Aside0.mk (Kd.V_drew HO_5.out)
               have n1_ := Aside0.mk (blk_drew BK1108.out)
               have n2_ := Aside0.mk (below_drew1 HB.out)
               clear HO_5
               clear BK1108
               clear HB
               have HO_5 := n0_
               have BK1108 := n1_
               have HB := n2_
               clear n0_ n1_ n2_
               refine start_ (n := 11) (S := fun w' => w'.cell? ⟨gb1108, 0, none⟩ = some (.int .i64 a1_0) ∧ w'.cell? ⟨gb1108, 1, none⟩ = some (.int .i64 a1_1) ∧ w'.cell? ⟨gb1108, 2, none⟩ = some (.int .i64 a1_2)) (ds := []) #[false, false, false, false, false, false, false, false, false, false, false] (by kernel_rfl) rfl rfl ⟨(blk_cell BK1108.out 0).trans rfl, (blk_cell BK1108.out 1).trans rfl, (blk_cell BK1108.out 2).trans rfl⟩ (fun hHeld => ?_); refine with_tabW schismalaw11_PrimeLists.tab9 schismalaw11_PrimeLists.bits9 (fun HT_ HW_ => ?_)
               generalize wc.drew = w40 at HO_5 BK1108 HB hHeld ⊢
               refine pure_ (i := 0) (N := some 52) (v := ?_) (a' := ?_) #[true, false, false, false, false, false, false, false, false, false, false] rfl rfl (any_of HT_.out (by kernel_rfl)) (fun _ _ _ h => h) (Or.inl ⟨by rfl, ?_⟩) ?_ ?_
               rotate_left
               ·intro w'
                go_simp
                with_reducible rfl
               rotate_left
               ·simp only [Act.put, List.setIfInBounds_toArray, List.set_cons_zero, List.set_cons_succ, i64_w, i32_w]
                rfl
               refine pure_ (i := 1) (N := some 53) (v := ?_) (a' := ?_) #[true, true, false, false, false, false, false, false, false, false, false] rfl rfl (any_of HT_.out (by kernel_rfl)) (fun _ _ _ h => h) (Or.inl ⟨by rfl, ?_⟩) ?_ ?_
               rotate_left
               ·intro w'
                go_simp
                with_reducible rfl
               rotate_left
               ·simp only [Act.put, List.setIfInBounds_toArray, List.set_cons_zero, List.set_cons_succ, i64_w, i32_w]
                rfl
               refine pure_ (i := 2) (N := some 54) (v := ?_) (a' := ?_) #[true, true, true, false, false, false, false, false, false, false, false] rfl rfl (any_of HT_.out (by kernel_rfl)) (fun _ _ _ h => h) (Or.inl ⟨by rfl, ?_⟩) ?_ ?_
               rotate_left
               ·intro w'
                go_simp
                with_reducible rfl
               rotate_left
               ·simp only [Act.put, List.setIfInBounds_toArray, List.set_cons_zero, List.set_cons_succ, i64_w, i32_w]
                rfl
               refine pure_ (i := 3) (N := some 55) (v := ?_) (a' := ?_) #[true, true, true, true, false, false, false, false, false, false, false] rfl rfl (any_of HT_.out (by kernel_rfl)) (fun _ _ _ h => h) (Or.inl ⟨by rfl, ?_⟩) ?_ ?_
               rotate_left
               ·intro w'
                go_simp
                with_reducible rfl
               rotate_left
               ·simp only [Act.put, List.setIfInBounds_toArray, List.set_cons_zero, List.set_cons_succ, i64_w, i32_w]
                rfl
               refine pure_ (i := 5) (N := some 57) (v := ?_) (a' := ?_) #[true, true, true, true, false, true, false, false, false, false, false] rfl rfl (any_of HT_.out (by kernel_rfl)) (fun _ _ _ h => h) (Or.inl ⟨by rfl, ?_⟩) ?_ ?_
               rotate_left
               ·intro w'
                go_simp
                with_reducible rfl
               rotate_left
               ·simp only [Act.put, List.setIfInBounds_toArray, List.set_cons_zero, List.set_cons_succ, i64_w, i32_w]
                rfl
               refine take_ (i := 6) (N := some 58) (v := ?_) (a' := ?_) #[true, true, true, true, false, true, true, false, false, false, false] rfl rfl (take_ofW HT_.out HW_.out (by kernel_rfl)) (fun _ _ _ h => h) (Or.inl ⟨by rfl, ?_⟩) hHeld ?_ ?_
               rotate_left
               ·rintro w' ⟨s0, s1, s2⟩
                go_simp
                with_reducible rfl
               rotate_left
               ·simp only [Act.put, List.setIfInBounds_toArray, List.set_cons_zero, List.set_cons_succ, i64_w, i32_w]
                rfl
               refine one_ (i := 4) (N := some 56) #[true, true, true, true, true, true, true, false, false, false, false] rfl rfl (one_of HT_.out (by kernel_rfl)) (by decide) (fun K hK => ?_)
               refine goes_ Tryz.func64 (by kernel_rfl) rfl #[.int .i64 20] (by rfl) rfl rfl (by (try simp only [List.map_toArray, List.map_cons, List.map_nil]); first | done | rfl | (simp only [List.length_drop, List.length_take]; rfl)) ?_
               with_reducible refine (schismalaw11_all.calls kj21 20 t1119 _ A35.out).mono ?_
               rintro e w41 ⟨v1120, rfl, ho0, hb⟩
               refine ⟨_, rfl, ?_⟩
               have n0_ := Aside0.mk (Kd.V_elder' (by (with_reducible repeat (first | apply Kd.V_alloc | apply Kd.V_drewN | apply Kd.V_drew)); exact HO_5.out) (Kd.R_base ho0) hb)
               have n1_ := Aside0.mk (Kd.R_lower ho0 (below_size (by repeat (first | (with_reducible first | exact HB.out | apply below_alloc | apply pw_below_drewN | apply below_drew1 | refine below_set ?_ GE1108.out) | exact HB.out))))
               have n2_ := Aside0.mk (blk_below (g := gb1108) (o := .cells #[.int .i64 a1_0, .int .i64 a1_1, .int .i64 a1_2] 79 (0, 0)) (by (with_reducible repeat (first | refine blk_drewN ?_ _ | refine blk_drew ?_ | refine blk_alloc ?_ _)); exact BK1108.out) hb)
               have n3_ := Aside0.mk (below_step (by repeat (first | (with_reducible first | exact HB.out | apply below_alloc | apply pw_below_drewN | apply below_drew1 | refine below_set ?_ GE1108.out) | exact HB.out)) hb)
               clear HO_5
               clear BK1108
               clear HB
               have HO_5 := n0_
               have HO1121 := n1_
               have BK1108 := n2_
               have HB := n3_
               clear n0_ n1_ n2_ n3_
               (try clear hb)
               (try clear hb2)
               (try clear hk)
               (try clear hi)
               (try clear ho0)
               obtain ⟨Ao43, co43, eo43⟩ := Kd.R_slice HO1121.out
               (first | subst eo43 | (injection eo43 with f1_ f2_ f3_; have f4_ := f1_.symm; have f5_ := f3_.symm; clear f1_ f2_ f3_; subst f4_; subst f5_))
               have q42 : (a1_1 : Int) ≤ ((t1119.length : Int) : Int) := of_decide_eq_true (by first | (with_reducible assumption) | assumption)
               obtain ⟨i042, hi042, _, hsz42, _⟩ := info_parts info3
               have hroom42 : t1119.length ≤ co43 := (Kd.R_reads' HO1121.out).2.1
               have hC42 : Kd.C (Kd.int .i64) _ Ao43 t1119.length t1119 := (Kd.R_reads' HO1121.out).2.2
               have hcut42 := cut_to (P := Tryz.prog) 23 3 .i64 Tryz.underlying23 hi042 Ao43 t1119.length co43 a1_1 (of_decide_eq_true (by first | (with_reducible assumption) | assumption)) q42 hroom42
               have hr42 := Kd.C_take (m := (a1_1 : Int).toNat) hC42 (by omega)
               have hy42 : y1122.length = (a1_1 : Int).toNat := (by rw [Ny1122.out, List.length_take]; omega)
               rw [← Ny1122.out] at hr42
               rw [← hy42] at hcut42
               have HR1125 := Aside0.mk hr42
               have HC1125 := Aside0.mk (show y1122.length ≤ co43 from by omega)
               clear hr42 hC42 hroom42 hi042 hsz42
               have KY42 := Aside0.mk hy42
               clear hy42
               have KL42 := Aside0.mk (show (a1_1 : Int).toNat ≤ t1119.length from by omega)
               replace q42 := eq_true q42
               obtain ⟨Ao44, co44, eo44⟩ := Kd.V_slice HO_5.out
               (first | subst eo44 | (injection eo44 with f1_ f2_ f3_; have f4_ := f1_.symm; have f5_ := f3_.symm; clear f1_ f2_ f3_; subst f4_; subst f5_))
               refine hK.out _ _ ⟨(blk_cell BK1108.out 0).trans rfl, (blk_cell BK1108.out 1).trans rfl, (blk_cell BK1108.out 2).trans rfl⟩ (fun hHeld => ?_)
               clear hK K
               refine norm_ (a' := ?_) ?_ ?_
               rotate_left
               ·show Act.put _ (some 56) _ = _
                simp only [Act.put, List.setIfInBounds_toArray, List.set_cons_zero, List.set_cons_succ, i64_w, i32_w]
                rfl
               refine pure_ (i := 7) (N := some 59) (v := ?_) (a' := ?_) #[true, true, true, true, true, true, true, true, false, false, false] rfl rfl (any_of HT_.out (by kernel_rfl)) (fun _ _ _ h => h) (Or.inl ⟨by rfl, ?_⟩) ?_ ?_
               rotate_left
               ·intro w'
                go_simp
                with_reducible rfl
               rotate_left
               ·simp only [Act.put, List.setIfInBounds_toArray, List.set_cons_zero, List.set_cons_succ, i64_w, i32_w]
                rfl
               refine one_ (i := 8) (N := some 60) #[true, true, true, true, true, true, true, true, true, false, false] rfl rfl (one_of HT_.out (by kernel_rfl)) (by decide) (fun K hK => ?_)
               refine goes_ Tryz.func63 (by kernel_rfl) rfl #[.slice Ao44 t1115.length co44, .slice Ao43 y1122.length co43] (by rfl) rfl rfl (by (try simp only [List.map_toArray, List.map_cons, List.map_nil]); first | done | rfl | (simp only [List.length_drop, List.length_take]; rfl)) ?_
               with_reducible refine (api_Primes_int_63.calls kj21 _ _ t1115 _ _ y1122 true _ ?side1 ?side2 ?side3 ?side4 A38.out).mono ?_
               (case side1 => repeat (first | exact (Kd.V_reads' HO_5.out).2.2 | (with_reducible refine Kd.C_alloc ?_ _) | (with_reducible refine Kd.C_drewN ?_ _) | (with_reducible refine Kd.C_drew ?_)))
               (case side2 => exact (Kd.V_reads' HO_5.out).2.1)
               (case side3 => repeat (first | exact (by repeat (first | (with_reducible exact HR1125.out) | (with_reducible refine Kd.C_alloc ?_ _) | (with_reducible refine Kd.C_drewN ?_ _) | (with_reducible refine Kd.C_drew ?_) | exact HR1125.out)) | (with_reducible refine Kd.C_alloc ?_ _) | (with_reducible refine Kd.C_drewN ?_ _) | (with_reducible refine Kd.C_drew ?_)))
               (case side4 => exact HC1125.out)
               rintro e w' ⟨rfl, ⟨nd, rfl⟩⟩
               refine ⟨_, rfl, ?_⟩
               refine hK.out _ _ ⟨(blk_cell BK1108.out 0).trans rfl, (blk_cell BK1108.out 1).trans rfl, (blk_cell BK1108.out 2).trans rfl⟩ (fun hHeld => ?_)
               clear hK K
               refine norm_ (a' := ?_) ?_ ?_
               rotate_left
               ·show Act.put _ (some 60) _ = _
                simp only [Act.put, List.setIfInBounds_toArray, List.set_cons_zero, List.set_cons_succ, i64_w, i32_w]
                rfl
               refine pure_ (i := 9) (N := some 61) (v := ?_) (a' := ?_) #[true, true, true, true, true, true, true, true, true, true, false] rfl rfl (any_of HT_.out (by kernel_rfl)) (fun _ _ _ h => h) (Or.inl ⟨by rfl, ?_⟩) ?_ ?_
               rotate_left
               ·intro w'
                go_simp
                with_reducible rfl
               rotate_left
               ·simp only [Act.put, List.setIfInBounds_toArray, List.set_cons_zero, List.set_cons_succ, i64_w, i32_w]
                rfl
               refine pure_ (i := 10) (N := some 62) (v := ?_) (a' := ?_) #[true, true, true, true, true, true, true, true, true, true, true] rfl rfl (any_of HT_.out (by kernel_rfl)) (fun _ _ _ h => h) (Or.inl ⟨by rfl, ?_⟩) ?_ ?_
               rotate_left
               ·intro w'
                go_simp
                with_reducible rfl
               rotate_left
               ·simp only [Act.put, List.setIfInBounds_toArray, List.set_cons_zero, List.set_cons_succ, i64_w, i32_w]
                rfl
               refine done_ (done_of HT_.out (by kernel_rfl)) ?_
               try go_wp2
               go_meet
               case rel => exact ⟨_, H', ⟨by have := HJ2.out; have := HJ11.out; have := HJ21.out; first | omega | exact Nat.le_refl _⟩, ⟨by (with_reducible repeat (first | refine blk_drewN ?_ _ | refine blk_drew ?_ | refine blk_alloc ?_ _)); exact BK1108.out⟩, ⟨by repeat (first | (with_reducible first | exact HB.out | apply below_alloc | apply pw_below_drewN | apply below_drew1 | refine below_set ?_ GE1108.out) | exact HB.out)⟩⟩
              ·replace c39 := Bool.eq_false_iff.mpr c39
               subst c39
               have H1 : (some false) = some r := by rw [if_neg (show ¬ (false = true) by decide)] at H; exact H
               clear H
               have H := H1
               clear H1
               exact absurd ((Option.some.inj H).trans hr) Bool.false_ne_true
             ·rw [if_neg c37] at H
              exact absurd H (by simp)
            ·rw [if_neg c36] at H
             exact absurd H (by simp)
           ·rw [if_neg c34] at H
            have c34b0 : (t1118 == 0) = false := beq_eq_false_iff_ne.mpr c34
            have c34b1 : (t1118 != 0) = true := bne_iff_ne.mpr c34
            exact absurd ((Option.some.inj H).trans hr) Bool.false_ne_true
         case rest =>
          clear HC28
          try clear c1
          try clear c2
          try clear p2
          try clear c3
          try clear q4
          try clear c5
          try clear c6
          try clear c9
          try clear c12
          try clear c15
          try clear c15b0
          try clear c15b1
          try clear c15b2
          try clear c20
          try clear c25
          try clear c25b0
          try clear c29
          try clear c30
          try clear c30b0
          try clear c30b1
          try clear c31
          try clear c31b0
          try clear c31b1
          try clear c34
          try clear c34b0
          try clear c34b1
          try clear c36
          try clear c36b0
          try clear c36b1
          try clear c37
          try clear c37b0
          try clear c37b1
          try clear c39
          try clear q42
          try clear q47
          try clear hcz23_0
          try clear hcz23_1
          try clear hcz23_2
          try clear hcz26_0
          try clear hcz26_1
          try clear hcz26_2
          try clear hcz27_0
          try clear hcz27_1
          try clear hcz27_2
          try clear hfz23_0
          try clear hfz23_1
          try clear hfz23_2
          try clear hfz26_0
          try clear hfz26_1
          try clear hfz26_2
          try clear hfz27_0
          try clear hfz27_1
          try clear hfz27_2
          try clear p2
          try clear q42
          try clear q47
          obtain ⟨kq, HA, HJ27, BK1108, HB⟩ := hcut
          cases kq with
          | zero => exact absurd HA.out (by simp [schismalaw11_PrimeLists.j3])
          | succ kj27 =>
           have H := HA.out
           clear HA
           simp only [schismalaw11_PrimeLists.j3] at H
           replace H := Option.bind_eq_some_iff.mp H
           obtain ⟨⟨t1127, t1128⟩, A510, H⟩ := H
           replace H : (if a1_2 < 2 then (if t1128 = 3 then (some ((t1127.length : Int) == 0)) else (some false)) else (if a1_2 ≥ 17 then (if t1128 = 4 then (some ((t1127.length : Int) == 0)) else (some false)) else (if t1128 = 0 then ((schismalaw11_all.f kj27 a1_2).bind fun t1131 => ((api_Primes_int_63.f kj27 t1127 t1131).bind fun t1134 => (some t1134))) else (some false)))) = some r := H
           have A51 := Aside0.mk A510
           clear A510
           by_cases c52 : a1_2 < 2
           ·rw [if_pos c52] at H
            have c52b0 : decide (a1_2 < 2) = true := decide_eq_true c52
            clear c52
            by_cases c53 : t1128 = 3
            ·rw [if_pos c53] at H
             have c53b0 : (t1128 == 3) = true := beq_iff_eq.mpr c53
             have c53b1 : (t1128 != 3) = false := bne_eq_false_iff_eq.mpr c53
             clear c53
             obtain rfl := Option.some.inj H
             have hcz54_0 : wc.cell? ⟨gb1108, 0, none⟩ = some (.int .i64 a1_0) := (blk_cell BK1108.out 0).trans rfl
             have hcz54_1 : wc.cell? ⟨gb1108, 1, none⟩ = some (.int .i64 a1_1) := (blk_cell BK1108.out 1).trans rfl
             have hcz54_2 : wc.cell? ⟨gb1108, 2, none⟩ = some (.int .i64 a1_2) := (blk_cell BK1108.out 2).trans rfl
             have hfz54_0 := blk_frozen BK1108.out 0
             have hfz54_1 := blk_frozen BK1108.out 1
             have hfz54_2 := blk_frozen BK1108.out 2
             go_wp2_with (first | ((with_reducible refine gate_callee (f := 65) rfl ?_); refine goesL_ (some 66) rfl rfl Tryz.func65 (by kernel_rfl) rfl #[.int .i64 a1_2] rfl (by (try simp only [List.map_toArray, List.map_cons, List.map_nil]); first | done | rfl | (simp only [List.length_drop, List.length_take]; rfl)) ?_; (with_reducible refine (prime_UpTo.calls kj27 a1_2 t1127 t1128 _ ?side1 A51.out).mono ?_); (case side1 => refine TabW.below hT ?_; repeat (first | (with_reducible first | exact HB.out | apply below_alloc | apply pw_below_drewN | apply below_drew1 | refine below_set ?_ GE1108.out) | exact HB.out)); rintro e w55 ⟨v1129, rfl, ho0, hb⟩; refine ⟨_, rfl, ?_⟩; have n0_ := Aside0.mk (Kd.R_lower ho0 (below_size (by repeat (first | (with_reducible first | exact HB.out | apply below_alloc | apply pw_below_drewN | apply below_drew1 | refine below_set ?_ GE1108.out) | exact HB.out)))); have n1_ := Aside0.mk (blk_below (g := gb1108) (o := .cells #[.int .i64 a1_0, .int .i64 a1_1, .int .i64 a1_2] 79 (0, 0)) (by (with_reducible repeat (first | refine blk_drewN ?_ _ | refine blk_drew ?_ | refine blk_alloc ?_ _)); exact BK1108.out) hb); have n2_ := Aside0.mk (below_step (by repeat (first | (with_reducible first | exact HB.out | apply below_alloc | apply pw_below_drewN | apply below_drew1 | refine below_set ?_ GE1108.out) | exact HB.out)) hb); clear BK1108; clear HB; have HO1130 := n0_; have BK1108 := n1_; have HB := n2_; clear n0_ n1_ n2_; (try clear hb); (try clear hb2); (try clear hk); (try clear hi); (try clear ho0); have hcz56_0 : w55.cell? ⟨gb1108, 0, none⟩ = some (.int .i64 a1_0) := (blk_cell BK1108.out 0).trans rfl; have hcz56_1 : w55.cell? ⟨gb1108, 1, none⟩ = some (.int .i64 a1_1) := (blk_cell BK1108.out 1).trans rfl; have hcz56_2 : w55.cell? ⟨gb1108, 2, none⟩ = some (.int .i64 a1_2) := (blk_cell BK1108.out 2).trans rfl; have hfz56_0 := blk_frozen BK1108.out 0; have hfz56_1 := blk_frozen BK1108.out 1; have hfz56_2 := blk_frozen BK1108.out 2; obtain ⟨Ao57, co57, eo57⟩ := Kd.R_slice HO1130.out; subst eo57))
             go_ret
             exact ⟨by first | rfl | (simp [errW_none, errW_some] <;> rfl) | (simp [*, errW_none, errW_some] <;> rfl), by repeat (first | (with_reducible first | exact HB.out | apply below_alloc | apply pw_below_drewN | apply below_drew1 | refine below_set ?_ GE1108.out) | exact HB.out)⟩
            ·rw [if_neg c53] at H
             have c53b0 : (t1128 == 3) = false := beq_eq_false_iff_ne.mpr c53
             have c53b1 : (t1128 != 3) = true := bne_iff_ne.mpr c53
             exact absurd ((Option.some.inj H).trans hr) Bool.false_ne_true
           ·rw [if_neg c52] at H
            have c52b0 : decide (a1_2 < 2) = false := decide_eq_false c52
            clear c52
            by_cases c61 : a1_2 ≥ 17
            ·rw [if_pos c61] at H
             have c61b0 : decide (17 ≤ a1_2) = true := decide_eq_true c61
             clear c61
             by_cases c62 : t1128 = 4
             ·rw [if_pos c62] at H
              have c62b0 : (t1128 == 4) = true := beq_iff_eq.mpr c62
              have c62b1 : (t1128 != 4) = false := bne_eq_false_iff_eq.mpr c62
              clear c62
              obtain rfl := Option.some.inj H
              have hcz63_0 : wc.cell? ⟨gb1108, 0, none⟩ = some (.int .i64 a1_0) := (blk_cell BK1108.out 0).trans rfl
              have hcz63_1 : wc.cell? ⟨gb1108, 1, none⟩ = some (.int .i64 a1_1) := (blk_cell BK1108.out 1).trans rfl
              have hcz63_2 : wc.cell? ⟨gb1108, 2, none⟩ = some (.int .i64 a1_2) := (blk_cell BK1108.out 2).trans rfl
              have hfz63_0 := blk_frozen BK1108.out 0
              have hfz63_1 := blk_frozen BK1108.out 1
              have hfz63_2 := blk_frozen BK1108.out 2
              go_wp2_with (first | ((with_reducible refine gate_callee (f := 65) rfl ?_); refine goesL_ (some 66) rfl rfl Tryz.func65 (by kernel_rfl) rfl #[.int .i64 a1_2] rfl (by (try simp only [List.map_toArray, List.map_cons, List.map_nil]); first | done | rfl | (simp only [List.length_drop, List.length_take]; rfl)) ?_; (with_reducible refine (prime_UpTo.calls kj27 a1_2 t1127 t1128 _ ?side1 A51.out).mono ?_); (case side1 => refine TabW.below hT ?_; repeat (first | (with_reducible first | exact HB.out | apply below_alloc | apply pw_below_drewN | apply below_drew1 | refine below_set ?_ GE1108.out) | exact HB.out)); rintro e w64 ⟨v1129, rfl, ho0, hb⟩; refine ⟨_, rfl, ?_⟩; have n0_ := Aside0.mk (Kd.R_lower ho0 (below_size (by repeat (first | (with_reducible first | exact HB.out | apply below_alloc | apply pw_below_drewN | apply below_drew1 | refine below_set ?_ GE1108.out) | exact HB.out)))); have n1_ := Aside0.mk (blk_below (g := gb1108) (o := .cells #[.int .i64 a1_0, .int .i64 a1_1, .int .i64 a1_2] 79 (0, 0)) (by (with_reducible repeat (first | refine blk_drewN ?_ _ | refine blk_drew ?_ | refine blk_alloc ?_ _)); exact BK1108.out) hb); have n2_ := Aside0.mk (below_step (by repeat (first | (with_reducible first | exact HB.out | apply below_alloc | apply pw_below_drewN | apply below_drew1 | refine below_set ?_ GE1108.out) | exact HB.out)) hb); clear BK1108; clear HB; have HO1130 := n0_; have BK1108 := n1_; have HB := n2_; clear n0_ n1_ n2_; (try clear hb); (try clear hb2); (try clear hk); (try clear hi); (try clear ho0); have hcz65_0 : w64.cell? ⟨gb1108, 0, none⟩ = some (.int .i64 a1_0) := (blk_cell BK1108.out 0).trans rfl; have hcz65_1 : w64.cell? ⟨gb1108, 1, none⟩ = some (.int .i64 a1_1) := (blk_cell BK1108.out 1).trans rfl; have hcz65_2 : w64.cell? ⟨gb1108, 2, none⟩ = some (.int .i64 a1_2) := (blk_cell BK1108.out 2).trans rfl; have hfz65_0 := blk_frozen BK1108.out 0; have hfz65_1 := blk_frozen BK1108.out 1; have hfz65_2 := blk_frozen BK1108.out 2; obtain ⟨Ao66, co66, eo66⟩ := Kd.R_slice HO1130.out; subst eo66))
              go_ret
              exact ⟨by first | rfl | (simp [errW_none, errW_some] <;> rfl) | (simp [*, errW_none, errW_some] <;> rfl), by repeat (first | (with_reducible first | exact HB.out | apply below_alloc | apply pw_below_drewN | apply below_drew1 | refine below_set ?_ GE1108.out) | exact HB.out)⟩
             ·rw [if_neg c62] at H
              have c62b0 : (t1128 == 4) = false := beq_eq_false_iff_ne.mpr c62
              have c62b1 : (t1128 != 4) = true := bne_iff_ne.mpr c62
              exact absurd ((Option.some.inj H).trans hr) Bool.false_ne_true
            ·rw [if_neg c61] at H
             have c61b0 : decide (17 ≤ a1_2) = false := decide_eq_false c61
             clear c61
             by_cases c70 : t1128 = 0
             ·rw [if_pos c70] at H
              have c70b0 : (t1128 == 0) = true := beq_iff_eq.mpr c70
              have c70b1 : (t1128 != 0) = false := bne_eq_false_iff_eq.mpr c70
              clear c70
              replace H := Option.bind_eq_some_iff.mp H
              obtain ⟨t1131, A710, H⟩ := H
              replace H : ((api_Primes_int_63.f kj27 t1127 t1131).bind fun t1134 => (some t1134)) = some r := H
              have A71 := Aside0.mk A710
              clear A710
              replace H := Option.bind_eq_some_iff.mp H
              obtain ⟨t1134, A720, H⟩ := H
              replace H : (some t1134) = some r := H
              have A72 := Aside0.mk A720
              clear A720
              obtain rfl := Option.some.inj H
              have hcz73_0 : wc.cell? ⟨gb1108, 0, none⟩ = some (.int .i64 a1_0) := (blk_cell BK1108.out 0).trans rfl
              have hcz73_1 : wc.cell? ⟨gb1108, 1, none⟩ = some (.int .i64 a1_1) := (blk_cell BK1108.out 1).trans rfl
              have hcz73_2 : wc.cell? ⟨gb1108, 2, none⟩ = some (.int .i64 a1_2) := (blk_cell BK1108.out 2).trans rfl
              have hfz73_0 := blk_frozen BK1108.out 0
              have hfz73_1 := blk_frozen BK1108.out 1
              have hfz73_2 := blk_frozen BK1108.out 2
              go_wp2_with (first | ((with_reducible refine gate_callee (f := 65) rfl ?_); refine goesL_ (some 66) rfl rfl Tryz.func65 (by kernel_rfl) rfl #[.int .i64 a1_2] rfl (by (try simp only [List.map_toArray, List.map_cons, List.map_nil]); first | done | rfl | (simp only [List.length_drop, List.length_take]; rfl)) ?_; (with_reducible refine (prime_UpTo.calls kj27 a1_2 t1127 t1128 _ ?side1 A51.out).mono ?_); (case side1 => refine TabW.below hT ?_; repeat (first | (with_reducible first | exact HB.out | apply below_alloc | apply pw_below_drewN | apply below_drew1 | refine below_set ?_ GE1108.out) | exact HB.out)); rintro e w74 ⟨v1129, rfl, ho0, hb⟩; refine ⟨_, rfl, ?_⟩; have n0_ := Aside0.mk (Kd.R_lower ho0 (below_size (by repeat (first | (with_reducible first | exact HB.out | apply below_alloc | apply pw_below_drewN | apply below_drew1 | refine below_set ?_ GE1108.out) | exact HB.out)))); have n1_ := Aside0.mk (blk_below (g := gb1108) (o := .cells #[.int .i64 a1_0, .int .i64 a1_1, .int .i64 a1_2] 79 (0, 0)) (by (with_reducible repeat (first | refine blk_drewN ?_ _ | refine blk_drew ?_ | refine blk_alloc ?_ _)); exact BK1108.out) hb); have n2_ := Aside0.mk (below_step (by repeat (first | (with_reducible first | exact HB.out | apply below_alloc | apply pw_below_drewN | apply below_drew1 | refine below_set ?_ GE1108.out) | exact HB.out)) hb); clear BK1108; clear HB; have HO1130 := n0_; have BK1108 := n1_; have HB := n2_; clear n0_ n1_ n2_; (try clear hb); (try clear hb2); (try clear hk); (try clear hi); (try clear ho0); have hcz75_0 : w74.cell? ⟨gb1108, 0, none⟩ = some (.int .i64 a1_0) := (blk_cell BK1108.out 0).trans rfl; have hcz75_1 : w74.cell? ⟨gb1108, 1, none⟩ = some (.int .i64 a1_1) := (blk_cell BK1108.out 1).trans rfl; have hcz75_2 : w74.cell? ⟨gb1108, 2, none⟩ = some (.int .i64 a1_2) := (blk_cell BK1108.out 2).trans rfl; have hfz75_0 := blk_frozen BK1108.out 0; have hfz75_1 := blk_frozen BK1108.out 1; have hfz75_2 := blk_frozen BK1108.out 2) | (go_at_call 64; (with_reducible refine (schismalaw11_all.calls kj27 a1_2 t1131 _ A71.out).mono ?_); rintro e w76 ⟨v1132, rfl, ho0, hb⟩; have n0_ := Aside0.mk (Kd.R_elder' (by (with_reducible repeat (first | apply Kd.R_alloc | apply Kd.R_drewN | apply Kd.R_drew)); exact HO1130.out) (Kd.R_base ho0) hb); have n1_ := Aside0.mk (Kd.R_lower (Kd.R_new' ho0 (Kd.R_lt (by (with_reducible repeat (first | apply Kd.R_alloc | apply Kd.R_drewN | apply Kd.R_drew)); exact HO1130.out))) (below_size (by repeat (first | (with_reducible first | exact HB.out | apply below_alloc | apply pw_below_drewN | apply below_drew1 | refine below_set ?_ GE1108.out) | exact HB.out)))); have n2_ := Aside0.mk (blk_below (g := gb1108) (o := .cells #[.int .i64 a1_0, .int .i64 a1_1, .int .i64 a1_2] 79 (0, 0)) (by (with_reducible repeat (first | refine blk_drewN ?_ _ | refine blk_drew ?_ | refine blk_alloc ?_ _)); exact BK1108.out) hb); have n3_ := Aside0.mk (below_step (by repeat (first | (with_reducible first | exact HB.out | apply below_alloc | apply pw_below_drewN | apply below_drew1 | refine below_set ?_ GE1108.out) | exact HB.out)) hb); clear HO1130; clear BK1108; clear HB; have HO1130 := n0_; have HO1133 := n1_; have BK1108 := n2_; have HB := n3_; clear n0_ n1_ n2_ n3_; (try clear hb); (try clear hb2); (try clear hk); (try clear hi); (try clear ho0); obtain ⟨Ao77, co77, eo77⟩ := Kd.R_slice HO1130.out; subst eo77; obtain ⟨Ao78, co78, eo78⟩ := Kd.R_slice HO1133.out; subst eo78) | (go_at_call 63; (with_reducible refine (api_Primes_int_63.calls kj27 _ _ t1127 _ _ t1131 t1134 _ ?side1 ?side2 ?side3 ?side4 A72.out).mono ?_); (case side1 => repeat (first | exact (Kd.R_reads' HO1130.out).2.2 | (with_reducible refine Kd.C_alloc ?_ _) | (with_reducible refine Kd.C_drewN ?_ _) | (with_reducible refine Kd.C_drew ?_))); (case side2 => exact (Kd.R_reads' HO1130.out).2.1); (case side3 => repeat (first | exact (Kd.R_reads' HO1133.out).2.2 | (with_reducible refine Kd.C_alloc ?_ _) | (with_reducible refine Kd.C_drewN ?_ _) | (with_reducible refine Kd.C_drew ?_))); (case side4 => exact (Kd.R_reads' HO1133.out).2.1); rintro e w' ⟨rfl, ⟨nd, rfl⟩⟩))
              go_ret
              exact ⟨by first | rfl | (simp [errW_none, errW_some] <;> rfl) | (simp [*, errW_none, errW_some] <;> rfl), by repeat (first | (with_reducible first | exact HB.out | apply below_alloc | apply pw_below_drewN | apply below_drew1 | refine below_set ?_ GE1108.out) | exact HB.out)⟩
             ·rw [if_neg c70] at H
              have c70b0 : (t1128 == 0) = false := beq_eq_false_iff_ne.mpr c70
              have c70b1 : (t1128 != 0) = true := bne_iff_ne.mpr c70
              exact absurd ((Option.some.inj H).trans hr) Bool.false_ne_true
end Go.Proofs.YtccebdpjdpjgnaaGreatDoor.P
