/-
parts of the walks and of the plain laws: ExtInt Pschismalaw12known
-/
import Derived.Test.YtccebdpjdpjgnaaGreatDoorMP30
set_option linter.unusedVariables false
set_option linter.unusedSimpArgs false
section
namespace Go.Proofs.YtccebdpjdpjgnaaGreatDoor.P
open Go.RowKit Go.Proofs.YtccebdpjdpjgnaaGreatDoorW.PrintWords Go.Proofs.YtccebdpjdpjgnaaGreatDoorW.PrintLast Go.Proofs.YtccebdpjdpjgnaaGreatDoorW.PrintMore
def schismalaw12_Interval.f (k : Nat) (l0 : List Int) (a1_0 a1_1 a1_2 a1_3 : Int) : Option (List Int) := some (([a1_0, a1_1, a1_2, a1_3].take l0.length).map fun x => Int.tmod (wrap64 x) 10)
set_option maxHeartbeats 4000000 in
set_option maxRecDepth 100000 in
theorem schismalaw12_Interval.calls (k : Nat) (A0 : Option Addr) (c0 : Nat) (l0 : List Int) (a1_0 a1_1 a1_2 a1_3 : Int) (r : List Int) (w : World) (hr0 : Kd.C (Kd.int .i64) w A0 l0.length l0) (hc0 : l0.length ≤ c0) (h : schismalaw12_Interval.f k l0 a1_0 a1_1 a1_2 a1_3 = some r) :
  Calls Tryz.prog 46 #[.slice A0 l0.length c0, .agg #[.int .i8 a1_0, .int .i8 a1_1, .int .i8 a1_2, .int .i8 a1_3]] w fun e w' => ∃ v0_ : Value, e = .returned (v0_) ∧ Kd.R (Kd.int .i64) 3 w' w.heap.size (fun _ => True) v0_ r ∧ Below w.heap.size w w' := by
 have hlen : l0.length ≤ 9223372036854775807 := hr0.2.1
 unfold schismalaw12_Interval.f at h
 injection h with h
 subst h
 clear hr0
 go_enter Tryz.func46, Tryz.ntmps46
 go_wp2_with fail
 go_loopg [5, 6] 4 (fun g v5 v6 w' => ∃ j : Nat, j ≤ 4 ∧ j ≤ l0.length ∧ 4 - j ≤ g ∧ v6 = .int .i64 j ∧ Aside0 (Kd.R (Kd.int .i64) 3 w' w.heap.size (fun k_ => k_ ≠ w.heap.size) v5 (([a1_0, a1_1, a1_2, a1_3].take j).map fun x => Int.tmod (wrap64 x) 10)) ∧ Aside0 (Below w.heap.size w w') ∧ Aside0 (w'.heap[w.heap.size]? = some (.cells #[.int .i8 a1_0, .int .i8 a1_1, .int .i8 a1_2, .int .i8 a1_3] 48 (0, 0))))
 case atStart =>
  exact ⟨0, by omega, by omega, by omega, rfl, ⟨Kd.R_nil _ _ _ _ _⟩, ⟨below_alloc (Below.refl _ _) _⟩, ⟨Array.getElem?_push_size⟩⟩
 case round =>
  obtain ⟨j, hj4, hjl, hg, rfl, HO, HB, HG⟩ := hrel
  by_cases hc : j < l0.length ∧ j < 4
  ·obtain ⟨hc1, hc2⟩ := hc
   have d1 : (j : Int) < (l0.length : Int) := by omega
   have d2 : (j : Int) < 4 := by omega
   have d3 : (0 : Int) ≤ (j : Int) := by omega
   have hcell : wr.cell? ⟨w.heap.size, j, none⟩ = some (.int .i8 ([a1_0, a1_1, a1_2, a1_3].getD j 0)) := by
    unfold World.cell?
    rw [HG.out]
    rcases (show j = 0 ∨ j = 1 ∨ j = 2 ∨ j = 3 by omega) with rfl | rfl | rfl | rfl <;> rfl
   generalize hy : [a1_0, a1_1, a1_2, a1_3].getD j 0 = y at hcell
   have B := Aside0.mk hy
   have J := Aside0.mk hc2
   clear hc1 hc2 hy
   go_wp2_with (first | ((with_reducible refine gate_builtin (b := .append) (xs := #[.tmp 17, .tmp 23]) rfl ?_); at_builtin; refine Kd.R_append (Kd.int .i64) (w0 := w) w.heap.size rfl (.tmp 17) (.tmp 23) 24 3 (.int .i64 0) 8 rfl Tryz.underlying24 info3 rfl (by decide) (by omega) u5 (([a1_0, a1_1, a1_2, a1_3].take j).map fun x => Int.tmod (wrap64 x) 10) (Int.tmod (wrap64 y) 10) [.int .i64 (Int.tmod (wrap64 y) 10)] (fun k_ => k_ ≠ w.heap.size) (fun _ => False) rfl rfl ?aP (fun _ hk => hk.elim) ?aF ?aO ?aB ?aS ?aL ?_; (case aP => exact rfl); (case aB => exact HB.out); (case aF => exact (fun k hk => by have h1 := HG.out; obtain ⟨h2, _⟩ := Array.getElem?_eq_some_iff.1 h1; omega)); (case aO => exact HO.out); (case aS => exact below_size HB.out); (case aL => simp; omega); intro v24 w15 ho hb hg2 hat; have n0_ := Aside0.mk hb; have n1_ := Aside0.mk ho; have n2_ := Aside0.mk ((hg2.block w.heap.size (by have h1 := HG.out; obtain ⟨h2, _⟩ := Array.getElem?_eq_some_iff.1 h1; exact h2) (by intro e; exact HO.out.1 _ e.symm rfl)).trans HG.out); clear HB HO HG; have HB := n0_; have HO := n1_; have HG := n2_; clear n0_ n1_ n2_; clear ho hb hg2 hat))
   go_roundg (4 - (j + 1))
   case measure => omega
   case rel =>
    have hb2 := B.out
    have hj2 := J.out
    refine ⟨j + 1, by omega, by omega, by omega, by rw [show ((j + 1 : Nat) : Int) = (j : Int) + 1 by omega], ⟨?_⟩, HB, HG⟩
    have he : ([a1_0, a1_1, a1_2, a1_3].take (j + 1)).map (fun x => Int.tmod (wrap64 x) 10) = ([a1_0, a1_1, a1_2, a1_3].take j).map (fun x => Int.tmod (wrap64 x) 10) ++ [Int.tmod (wrap64 y) 10] := by
     rw [← hb2]
     rcases (show j = 0 ∨ j = 1 ∨ j = 2 ∨ j = 3 by omega) with rfl | rfl | rfl | rfl <;> rfl
    rw [he]
    exact HO.out
  ·have hend : ¬ ((j : Int) < (l0.length : Int)) ∨ ¬ ((j : Int) < 4) := by omega
   have hr : ([a1_0, a1_1, a1_2, a1_3].take j).map (fun x => Int.tmod (wrap64 x) 10) = [Int.tmod (wrap64 a1_0) 10, Int.tmod (wrap64 a1_1) 10, Int.tmod (wrap64 a1_2) 10, Int.tmod (wrap64 a1_3) 10].take l0.length := by
    rw [List.map_take]
    simp only [List.map_cons, List.map_nil]
    by_cases h4 : j = 4
    ·subst h4
     rw [List.take_of_length_le (by simp), List.take_of_length_le (by simp; omega)]
    ·rw [show j = l0.length by omega]
   rw [hr] at HO
   by_cases d1 : (j : Int) < (l0.length : Int)
   ·have d2 : ¬ ((j : Int) < 4) := by omega
    clear hend hc
    go_wp2
    go_ret
    exact ⟨_, rfl, by (with_reducible repeat (first | apply Kd.R_alloc | apply Kd.R_drewN | apply Kd.R_drew)); exact Kd.R_mono HO.out (fun _ _ => trivial), by repeat (first | (with_reducible first | exact HB.out | apply below_alloc | apply pw_below_drewN | apply below_drew1) | exact HB.out)⟩
   ·clear hend hc
    go_wp2
    go_ret
    exact ⟨_, rfl, by (with_reducible repeat (first | apply Kd.R_alloc | apply Kd.R_drewN | apply Kd.R_drew)); exact Kd.R_mono HO.out (fun _ _ => trivial), by repeat (first | (with_reducible first | exact HB.out | apply below_alloc | apply pw_below_drewN | apply below_drew1) | exact HB.out)⟩
end Go.Proofs.YtccebdpjdpjgnaaGreatDoor.P
end
section
namespace Go.Proofs.YtccebdpjdpjgnaaGreatDoor.P
open Go.RowKit Go.Proofs.YtccebdpjdpjgnaaGreatDoorW.PrintWords Go.Proofs.YtccebdpjdpjgnaaGreatDoorW.PrintLast Go.Proofs.YtccebdpjdpjgnaaGreatDoorW.PrintMore
attribute [local go_sem] max2_int min2_int max_two min_two max_three min_three max_four min_four
def schismalaw12_known.f (k : Nat)  : Option (Bool) := (some (([2, 3, 5] : List Int) : List Int)).bind fun y466 => ((monzo_Of.f k y466 (⟨#[56, 49]⟩ : ByteArray) (⟨#[56, 48]⟩ : ByteArray)).bind fun bt469 => ((monzo_Brackets.f k y466 bt469.1).bind fun bt473 => ((monzo_Text.f k y466 bt469.1).bind fun bt475 => ((monzo_Product.f k y466 bt469.1).bind fun bt477 => ((monzo_Compare.f k y466 (([(-1), 1, 0] : List Int)) (([3, (-3), 1] : List Int))).bind fun bt485 => ((monzo_Of.f k y466 (⟨#[55]⟩ : ByteArray) (⟨#[52]⟩ : ByteArray)).bind fun bt487 => (if bt469.2 = 0 then ((schismalaw12_Same.f k bt469.1 (([(-4), 4, (-1)] : List Int))).bind fun t494 => (if t494 = true then (if bt473.2 = 0 then (if bt473.1.toList = ([91, 45, 52, 32, 52, 32, 45, 49, 62] : List UInt8) then (if bt475.2 = 0 then (if bt475.1.toList = ([56, 49, 47, 56, 48] : List UInt8) then (if bt477.1.toList = ([54, 52, 56, 48] : List UInt8) then (if bt477.2 = 0 then (if bt485.1 = 1 then (if bt485.2 = 0 then (some (bt487.2 == 25)) else (some false)) else (some false)) else (some false)) else (some false)) else (some false)) else (some false)) else (some false)) else (some false)) else (some false))) else (some false))))))))
set_option maxHeartbeats 8000000 in
set_option maxRecDepth 100000 in
theorem schismalaw12_known.calls (k : Nat)  (r : Bool) (w : World) (hT : TabW w) (h : schismalaw12_known.f k  = some r) (hr : r = true) :
  Calls Tryz.prog 22 #[] w fun e w' => e = .returned (.bool r) ∧ Below w.heap.size w w' := by
 have hu38 := Tryz.underlying38
 have HB := Aside0.mk (Below.refl w.heap.size w)
 have H : ((some (([2, 3, 5] : List Int) : List Int)).bind fun y466 => ((monzo_Of.f k y466 (⟨#[56, 49]⟩ : ByteArray) (⟨#[56, 48]⟩ : ByteArray)).bind fun bt469 => ((monzo_Brackets.f k y466 bt469.1).bind fun bt473 => ((monzo_Text.f k y466 bt469.1).bind fun bt475 => ((monzo_Product.f k y466 bt469.1).bind fun bt477 => ((monzo_Compare.f k y466 (([(-1), 1, 0] : List Int)) (([3, (-3), 1] : List Int))).bind fun bt485 => ((monzo_Of.f k y466 (⟨#[55]⟩ : ByteArray) (⟨#[52]⟩ : ByteArray)).bind fun bt487 => (if bt469.2 = 0 then ((schismalaw12_Same.f k bt469.1 (([(-4), 4, (-1)] : List Int))).bind fun t494 => (if t494 = true then (if bt473.2 = 0 then (if bt473.1.toList = ([91, 45, 52, 32, 52, 32, 45, 49, 62] : List UInt8) then (if bt475.2 = 0 then (if bt475.1.toList = ([56, 49, 47, 56, 48] : List UInt8) then (if bt477.1.toList = ([54, 52, 56, 48] : List UInt8) then (if bt477.2 = 0 then (if bt485.1 = 1 then (if bt485.2 = 0 then (some (bt487.2 == 25)) else (some false)) else (some false)) else (some false)) else (some false)) else (some false)) else (some false)) else (some false)) else (some false)) else (some false))) else (some false))))))))) = some r := h
 clear h
 obtain ⟨y466, hy466⟩ : ∃ y_ : List Int, y_ = (([2, 3, 5] : List Int)) := ⟨_, rfl⟩
 replace H : ((monzo_Of.f k y466 (⟨#[56, 49]⟩ : ByteArray) (⟨#[56, 48]⟩ : ByteArray)).bind fun bt469 => ((monzo_Brackets.f k y466 bt469.1).bind fun bt473 => ((monzo_Text.f k y466 bt469.1).bind fun bt475 => ((monzo_Product.f k y466 bt469.1).bind fun bt477 => ((monzo_Compare.f k y466 (([(-1), 1, 0] : List Int)) (([3, (-3), 1] : List Int))).bind fun bt485 => ((monzo_Of.f k y466 (⟨#[55]⟩ : ByteArray) (⟨#[52]⟩ : ByteArray)).bind fun bt487 => (if bt469.2 = 0 then ((schismalaw12_Same.f k bt469.1 (([(-4), 4, (-1)] : List Int))).bind fun t494 => (if t494 = true then (if bt473.2 = 0 then (if bt473.1.toList = ([91, 45, 52, 32, 52, 32, 45, 49, 62] : List UInt8) then (if bt475.2 = 0 then (if bt475.1.toList = ([56, 49, 47, 56, 48] : List UInt8) then (if bt477.1.toList = ([54, 52, 56, 48] : List UInt8) then (if bt477.2 = 0 then (if bt485.1 = 1 then (if bt485.2 = 0 then (some (bt487.2 == 25)) else (some false)) else (some false)) else (some false)) else (some false)) else (some false)) else (some false)) else (some false)) else (some false)) else (some false))) else (some false)))))))) = some r := by first | (rw [hy466]; with_reducible exact H) | (have H2_ := (Option.bind_some _ _).symm.trans H; rw [hy466]; with_reducible exact H2_) | (have H2_ := (Option.bind_some _ _).symm.trans H; with_reducible exact H2_) | with_reducible exact H | (rw [hy466]; exact H) | exact H
 have Ny466 := Aside0.mk hy466
 clear hy466
 replace H := Option.bind_eq_some_iff.mp H
 obtain ⟨⟨t469, t472⟩, A10, H⟩ := H
 try dsimp only at H
 have A1 := Aside0.mk A10
 clear A10
 replace H := Option.bind_eq_some_iff.mp H
 obtain ⟨⟨t473, t474⟩, A20, H⟩ := H
 try dsimp only at H
 have A2 := Aside0.mk A20
 clear A20
 replace H := Option.bind_eq_some_iff.mp H
 obtain ⟨⟨t475, t476⟩, A30, H⟩ := H
 try dsimp only at H
 have A3 := Aside0.mk A30
 clear A30
 replace H := Option.bind_eq_some_iff.mp H
 obtain ⟨⟨t477, t478⟩, A40, H⟩ := H
 try dsimp only at H
 have A4 := Aside0.mk A40
 clear A40
 obtain ⟨y479, hy479⟩ : ∃ y_ : List Int, y_ = (([(-1), 1, 0] : List Int)) := ⟨_, rfl⟩
 replace H : ((monzo_Compare.f k y466 y479 (([3, (-3), 1] : List Int))).bind fun bt485 => ((monzo_Of.f k y466 (⟨#[55]⟩ : ByteArray) (⟨#[52]⟩ : ByteArray)).bind fun bt487 => (if t472 = 0 then ((schismalaw12_Same.f k t469 (([(-4), 4, (-1)] : List Int))).bind fun t494 => (if t494 = true then (if t474 = 0 then (if t473.toList = ([91, 45, 52, 32, 52, 32, 45, 49, 62] : List UInt8) then (if t476 = 0 then (if t475.toList = ([56, 49, 47, 56, 48] : List UInt8) then (if t477.toList = ([54, 52, 56, 48] : List UInt8) then (if t478 = 0 then (if bt485.1 = 1 then (if bt485.2 = 0 then (some (bt487.2 == 25)) else (some false)) else (some false)) else (some false)) else (some false)) else (some false)) else (some false)) else (some false)) else (some false)) else (some false))) else (some false)))) = some r := by first | (rw [hy479]; with_reducible exact H) | (have H2_ := (Option.bind_some _ _).symm.trans H; rw [hy479]; with_reducible exact H2_) | (have H2_ := (Option.bind_some _ _).symm.trans H; with_reducible exact H2_) | with_reducible exact H | (rw [hy479]; exact H) | exact H
 have Ny479 := Aside0.mk hy479
 clear hy479
 obtain ⟨y482, hy482⟩ : ∃ y_ : List Int, y_ = (([3, (-3), 1] : List Int)) := ⟨_, rfl⟩
 replace H : ((monzo_Compare.f k y466 y479 y482).bind fun bt485 => ((monzo_Of.f k y466 (⟨#[55]⟩ : ByteArray) (⟨#[52]⟩ : ByteArray)).bind fun bt487 => (if t472 = 0 then ((schismalaw12_Same.f k t469 (([(-4), 4, (-1)] : List Int))).bind fun t494 => (if t494 = true then (if t474 = 0 then (if t473.toList = ([91, 45, 52, 32, 52, 32, 45, 49, 62] : List UInt8) then (if t476 = 0 then (if t475.toList = ([56, 49, 47, 56, 48] : List UInt8) then (if t477.toList = ([54, 52, 56, 48] : List UInt8) then (if t478 = 0 then (if bt485.1 = 1 then (if bt485.2 = 0 then (some (bt487.2 == 25)) else (some false)) else (some false)) else (some false)) else (some false)) else (some false)) else (some false)) else (some false)) else (some false)) else (some false))) else (some false)))) = some r := by first | (rw [hy482]; with_reducible exact H) | (have H2_ := (Option.bind_some _ _).symm.trans H; rw [hy482]; with_reducible exact H2_) | (have H2_ := (Option.bind_some _ _).symm.trans H; with_reducible exact H2_) | with_reducible exact H | (rw [hy482]; exact H) | exact H
 have Ny482 := Aside0.mk hy482
 clear hy482
 replace H := Option.bind_eq_some_iff.mp H
 obtain ⟨⟨t485, t486⟩, A50, H⟩ := H
 try dsimp only at H
 have A5 := Aside0.mk A50
 clear A50
 replace H := Option.bind_eq_some_iff.mp H
 obtain ⟨⟨t487, t490⟩, A60, H⟩ := H
 try dsimp only at H
 have A6 := Aside0.mk A60
 clear A60
 by_cases c7 : t472 = 0
 case neg => rw [if_neg c7] at H; have c7b0 : (t472 == 0) = false := beq_eq_false_iff_ne.mpr c7; have c7b1 : (t472 != 0) = true := bne_iff_ne.mpr c7; exact absurd ((Option.some.inj H).trans hr) Bool.false_ne_true
 rw [if_pos c7] at H
 have c7b0 : (t472 == 0) = true := beq_iff_eq.mpr c7
 have c7b1 : (t472 != 0) = false := bne_eq_false_iff_eq.mpr c7
 clear c7
 obtain ⟨y491, hy491⟩ : ∃ y_ : List Int, y_ = (([(-4), 4, (-1)] : List Int)) := ⟨_, rfl⟩
 replace H : ((schismalaw12_Same.f k t469 y491).bind fun t494 => (if t494 = true then (if t474 = 0 then (if t473.toList = ([91, 45, 52, 32, 52, 32, 45, 49, 62] : List UInt8) then (if t476 = 0 then (if t475.toList = ([56, 49, 47, 56, 48] : List UInt8) then (if t477.toList = ([54, 52, 56, 48] : List UInt8) then (if t478 = 0 then (if t485 = 1 then (if t486 = 0 then (some (t490 == 25)) else (some false)) else (some false)) else (some false)) else (some false)) else (some false)) else (some false)) else (some false)) else (some false)) else (some false))) = some r := by first | (rw [hy491]; with_reducible exact H) | (have H2_ := (Option.bind_some _ _).symm.trans H; rw [hy491]; with_reducible exact H2_) | (have H2_ := (Option.bind_some _ _).symm.trans H; with_reducible exact H2_) | with_reducible exact H | (rw [hy491]; exact H) | exact H
 have Ny491 := Aside0.mk hy491
 clear hy491
 replace H := Option.bind_eq_some_iff.mp H
 obtain ⟨t494, A80, H⟩ := H
 try dsimp only at H
 have A8 := Aside0.mk A80
 clear A80
 by_cases c9 : t494 = true
 ·subst c9
  have H1 : (if t474 = 0 then (if t473.toList = ([91, 45, 52, 32, 52, 32, 45, 49, 62] : List UInt8) then (if t476 = 0 then (if t475.toList = ([56, 49, 47, 56, 48] : List UInt8) then (if t477.toList = ([54, 52, 56, 48] : List UInt8) then (if t478 = 0 then (if t485 = 1 then (if t486 = 0 then (some (t490 == 25)) else (some false)) else (some false)) else (some false)) else (some false)) else (some false)) else (some false)) else (some false)) else (some false)) = some r := by rw [if_pos rfl] at H; exact H
  clear H
  have H := H1
  clear H1
  by_cases c10 : t474 = 0
  case neg => rw [if_neg c10] at H; have c10b0 : (t474 == 0) = false := beq_eq_false_iff_ne.mpr c10; have c10b1 : (t474 != 0) = true := bne_iff_ne.mpr c10; exact absurd ((Option.some.inj H).trans hr) Bool.false_ne_true
  rw [if_pos c10] at H
  have c10b0 : (t474 == 0) = true := beq_iff_eq.mpr c10
  have c10b1 : (t474 != 0) = false := bne_eq_false_iff_eq.mpr c10
  clear c10
  by_cases c11 : t473.toList = ([91, 45, 52, 32, 52, 32, 45, 49, 62] : List UInt8)
  case neg => rw [if_neg c11] at H; have c11b0 : (t473.toList == ([91, 45, 52, 32, 52, 32, 45, 49, 62] : List UInt8)) = false := beq_eq_false_iff_ne.mpr c11; have c11b1 : (t473.toList != ([91, 45, 52, 32, 52, 32, 45, 49, 62] : List UInt8)) = true := bne_iff_ne.mpr c11; exact absurd ((Option.some.inj H).trans hr) Bool.false_ne_true
  rw [if_pos c11] at H
  have c11b0 : (t473.toList == ([91, 45, 52, 32, 52, 32, 45, 49, 62] : List UInt8)) = true := beq_iff_eq.mpr c11
  have c11b1 : (t473.toList != ([91, 45, 52, 32, 52, 32, 45, 49, 62] : List UInt8)) = false := bne_eq_false_iff_eq.mpr c11
  clear c11
  by_cases c12 : t476 = 0
  case neg => rw [if_neg c12] at H; have c12b0 : (t476 == 0) = false := beq_eq_false_iff_ne.mpr c12; have c12b1 : (t476 != 0) = true := bne_iff_ne.mpr c12; exact absurd ((Option.some.inj H).trans hr) Bool.false_ne_true
  rw [if_pos c12] at H
  have c12b0 : (t476 == 0) = true := beq_iff_eq.mpr c12
  have c12b1 : (t476 != 0) = false := bne_eq_false_iff_eq.mpr c12
  clear c12
  by_cases c13 : t475.toList = ([56, 49, 47, 56, 48] : List UInt8)
  case neg => rw [if_neg c13] at H; have c13b0 : (t475.toList == ([56, 49, 47, 56, 48] : List UInt8)) = false := beq_eq_false_iff_ne.mpr c13; have c13b1 : (t475.toList != ([56, 49, 47, 56, 48] : List UInt8)) = true := bne_iff_ne.mpr c13; exact absurd ((Option.some.inj H).trans hr) Bool.false_ne_true
  rw [if_pos c13] at H
  have c13b0 : (t475.toList == ([56, 49, 47, 56, 48] : List UInt8)) = true := beq_iff_eq.mpr c13
  have c13b1 : (t475.toList != ([56, 49, 47, 56, 48] : List UInt8)) = false := bne_eq_false_iff_eq.mpr c13
  clear c13
  by_cases c14 : t477.toList = ([54, 52, 56, 48] : List UInt8)
  case neg => rw [if_neg c14] at H; have c14b0 : (t477.toList == ([54, 52, 56, 48] : List UInt8)) = false := beq_eq_false_iff_ne.mpr c14; have c14b1 : (t477.toList != ([54, 52, 56, 48] : List UInt8)) = true := bne_iff_ne.mpr c14; exact absurd ((Option.some.inj H).trans hr) Bool.false_ne_true
  rw [if_pos c14] at H
  have c14b0 : (t477.toList == ([54, 52, 56, 48] : List UInt8)) = true := beq_iff_eq.mpr c14
  have c14b1 : (t477.toList != ([54, 52, 56, 48] : List UInt8)) = false := bne_eq_false_iff_eq.mpr c14
  clear c14
  by_cases c15 : t478 = 0
  case neg => rw [if_neg c15] at H; have c15b0 : (t478 == 0) = false := beq_eq_false_iff_ne.mpr c15; have c15b1 : (t478 != 0) = true := bne_iff_ne.mpr c15; exact absurd ((Option.some.inj H).trans hr) Bool.false_ne_true
  rw [if_pos c15] at H
  have c15b0 : (t478 == 0) = true := beq_iff_eq.mpr c15
  have c15b1 : (t478 != 0) = false := bne_eq_false_iff_eq.mpr c15
  clear c15
  by_cases c16 : t485 = 1
  case neg => rw [if_neg c16] at H; have c16b0 : (t485 == 1) = false := beq_eq_false_iff_ne.mpr c16; have c16b1 : (t485 != 1) = true := bne_iff_ne.mpr c16; exact absurd ((Option.some.inj H).trans hr) Bool.false_ne_true
  rw [if_pos c16] at H
  have c16b0 : (t485 == 1) = true := beq_iff_eq.mpr c16
  have c16b1 : (t485 != 1) = false := bne_eq_false_iff_eq.mpr c16
  clear c16
  by_cases c17 : t486 = 0
  case neg => rw [if_neg c17] at H; have c17b0 : (t486 == 0) = false := beq_eq_false_iff_ne.mpr c17; have c17b1 : (t486 != 0) = true := bne_iff_ne.mpr c17; exact absurd ((Option.some.inj H).trans hr) Bool.false_ne_true
  rw [if_pos c17] at H
  have c17b0 : (t486 == 0) = true := beq_iff_eq.mpr c17
  have c17b1 : (t486 != 0) = false := bne_eq_false_iff_eq.mpr c17
  clear c17
  obtain rfl := Option.some.inj H
  go_enter Tryz.func22, Tryz.ntmps22
  go_wp2_with (first | ((with_reducible refine gate_dst (N := 14) rfl ?_); (try (refine gate_guard (by rfl) ?_; dsimp only)); refine Kd.R_lit (Kd.int .i64) _ 3 ?hg (N := 14) ?hd (xs := ([2, 3, 5] : List Int)) (inner := [.int .i64 2, .int .i64 3, .int .i64 5]) (ok := fun _ => True) (okp := fun _ => True) ?hr ?hp (fun _ hk => hk) trivial (Below.refl _ _) (Nat.le_refl _) (by simp) ?_; (case hd => rfl); (case hg => rfl); (case hr => go_simp; try rfl); (case hp => exact (Reps.one (show Kd.M (Kd.int .i64) _ _ _ 2 [.int .i64 2] from rfl) (Reps.one (show Kd.M (Kd.int .i64) _ _ _ 3 [.int .i64 3] from rfl) (Reps.one (show Kd.M (Kd.int .i64) _ _ _ 5 [.int .i64 5] from rfl) (Reps.none _ _))))); intro v467 w18 ho19 hb hg_ hnew_; clear hg_ hnew_; (first | rw [← Ny466.out] at ho19 | (simp only [Int.reduceToNat] at ho19; rw [← Ny466.out] at ho19)); have HO468 := Aside0.mk (Kd.R_lower ho19 (below_size (by apply_rules [HB.out, below_alloc, pw_below_drewN, below_drew1]))); replace HB := Aside0.mk (below_step (by apply_rules [HB.out, below_alloc, pw_below_drewN, below_drew1]) hb); clear hb ho19; obtain ⟨Ao20, co20, eo20⟩ := Kd.R_slice HO468.out; subst eo20) | ((with_reducible refine gate_callee (f := 31) rfl ?_); refine goesK (some 18) Tryz.func31 [.slice Ao20 y466.length co20, .agg #[.string (⟨#[56, 49]⟩ : ByteArray), .string (⟨#[56, 48]⟩ : ByteArray)]] rfl rfl ?_; (with_reducible refine (monzo_Of.calls k _ _ y466 (⟨#[56, 49]⟩ : ByteArray) (⟨#[56, 48]⟩ : ByteArray) t469 t472 _ ?side1 ?side2 ?side3 A1.out).mono ?_); (case side1 => refine TabW.below hT ?_; apply_rules [HB.out, below_alloc, pw_below_drewN, below_drew1]); (case side2 => apply_rules [(Kd.R_reads' HO468.out).2.2, Kd.C_alloc, Kd.C_drewN, Kd.C_drew]); (case side3 => exact (Kd.R_reads' HO468.out).2.1); rintro e w21 ⟨v470, rfl, ho0, hb⟩; refine ⟨_, rfl, ?_⟩; have n0_ := Aside0.mk (Kd.R_below (by apply_rules [HO468.out, Kd.R_alloc, Kd.R_drewN, Kd.R_drew]) hb); have n1_ := Aside0.mk (Kd.V_lower (Kd.V_mono (ok' := fun k_ => some k_ ≠ (.slice Ao20 y466.length co20 : Value).ownBlock) ho0 (fun k_ hk_ => (Kd.fresh' (Kd.R_lt (by apply_rules [HO468.out, Kd.R_alloc, Kd.R_drewN, Kd.R_drew])) k_ hk_))) (below_size (by apply_rules [HB.out, below_alloc, pw_below_drewN, below_drew1]))); have n2_ := Aside0.mk (below_step (by apply_rules [HB.out, below_alloc, pw_below_drewN, below_drew1]) hb); clear HO468; clear HB; have HO468 := n0_; have HO471 := n1_; have HB := n2_; clear n0_ n1_ n2_; (try clear hb); (try clear ho0); obtain ⟨Ao22, co22, eo22⟩ := Kd.V_slice HO471.out; subst eo22) | ((with_reducible refine gate_callee (f := 25) rfl ?_); refine goesK (some 24) Tryz.func25 [.slice Ao20 y466.length co20, .slice Ao22 t469.length co22] rfl rfl ?_; (with_reducible refine (monzo_Brackets.calls k _ _ y466 _ _ t469 t473 t474 _ ?side1 ?side2 ?side3 ?side4 ?side5 A2.out).mono ?_); (case side1 => refine TabW.below hT ?_; apply_rules [HB.out, below_alloc, pw_below_drewN, below_drew1]); (case side2 => apply_rules [(Kd.R_reads' HO468.out).2.2, Kd.C_alloc, Kd.C_drewN, Kd.C_drew]); (case side3 => exact (Kd.R_reads' HO468.out).2.1); (case side4 => apply_rules [(Kd.V_reads' HO471.out).2.2, Kd.C_alloc, Kd.C_drewN, Kd.C_drew]); (case side5 => exact (Kd.V_reads' HO471.out).2.1); rintro e w23 ⟨rfl, hb⟩; refine ⟨_, rfl, ?_⟩; replace HO468 := Aside0.mk (Kd.R_below (by apply_rules [HO468.out, Kd.R_alloc, Kd.R_drewN, Kd.R_drew]) hb); replace HO471 := Aside0.mk (Kd.V_below (by apply_rules [HO471.out, Kd.V_alloc, Kd.V_drewN, Kd.V_drew]) hb); replace HB := Aside0.mk (below_step (by apply_rules [HB.out, below_alloc, pw_below_drewN, below_drew1]) hb); (try clear hb)) | ((with_reducible refine gate_callee (f := 38) rfl ?_); refine goesK (some 30) Tryz.func38 [.slice Ao20 y466.length co20, .slice Ao22 t469.length co22] rfl rfl ?_; (with_reducible refine (monzo_Text.calls k _ _ y466 _ _ t469 t475 t476 _ ?side1 ?side2 ?side3 ?side4 ?side5 A3.out).mono ?_); (case side1 => refine TabW.below hT ?_; apply_rules [HB.out, below_alloc, pw_below_drewN, below_drew1]); (case side2 => apply_rules [(Kd.R_reads' HO468.out).2.2, Kd.C_alloc, Kd.C_drewN, Kd.C_drew]); (case side3 => exact (Kd.R_reads' HO468.out).2.1); (case side4 => apply_rules [(Kd.V_reads' HO471.out).2.2, Kd.C_alloc, Kd.C_drewN, Kd.C_drew]); (case side5 => exact (Kd.V_reads' HO471.out).2.1); rintro e w24 ⟨rfl, hb⟩; refine ⟨_, rfl, ?_⟩; replace HO468 := Aside0.mk (Kd.R_below (by apply_rules [HO468.out, Kd.R_alloc, Kd.R_drewN, Kd.R_drew]) hb); replace HO471 := Aside0.mk (Kd.V_below (by apply_rules [HO471.out, Kd.V_alloc, Kd.V_drewN, Kd.V_drew]) hb); replace HB := Aside0.mk (below_step (by apply_rules [HB.out, below_alloc, pw_below_drewN, below_drew1]) hb); (try clear hb)) | ((with_reducible refine gate_callee (f := 43) rfl ?_); refine goesK (some 36) Tryz.func43 [.slice Ao20 y466.length co20, .slice Ao22 t469.length co22] rfl rfl ?_; (with_reducible refine (monzo_Product.calls k _ _ y466 _ _ t469 t477 t478 _ ?side1 ?side2 ?side3 ?side4 ?side5 A4.out).mono ?_); (case side1 => refine TabW.below hT ?_; apply_rules [HB.out, below_alloc, pw_below_drewN, below_drew1]); (case side2 => apply_rules [(Kd.R_reads' HO468.out).2.2, Kd.C_alloc, Kd.C_drewN, Kd.C_drew]); (case side3 => exact (Kd.R_reads' HO468.out).2.1); (case side4 => apply_rules [(Kd.V_reads' HO471.out).2.2, Kd.C_alloc, Kd.C_drewN, Kd.C_drew]); (case side5 => exact (Kd.V_reads' HO471.out).2.1); rintro e w25 ⟨rfl, hb⟩; refine ⟨_, rfl, ?_⟩; replace HO468 := Aside0.mk (Kd.R_below (by apply_rules [HO468.out, Kd.R_alloc, Kd.R_drewN, Kd.R_drew]) hb); replace HO471 := Aside0.mk (Kd.V_below (by apply_rules [HO471.out, Kd.V_alloc, Kd.V_drewN, Kd.V_drew]) hb); replace HB := Aside0.mk (below_step (by apply_rules [HB.out, below_alloc, pw_below_drewN, below_drew1]) hb); (try clear hb)) | ((with_reducible refine gate_dst (N := 41) rfl ?_); (try (refine gate_guard (by rfl) ?_; dsimp only)); refine Kd.R_lit (Kd.int .i64) _ 3 ?hg (N := 41) ?hd (xs := ([(-1), 1, 0] : List Int)) (inner := [.int .i64 (-1), .int .i64 1, .int .i64 0]) (ok := fun _ => True) (okp := fun _ => True) ?hr ?hp (fun _ hk => hk) trivial (Below.refl _ _) (Nat.le_refl _) (by simp) ?_; (case hd => rfl); (case hg => rfl); (case hr => go_simp; try rfl); (case hp => exact (Reps.one (show Kd.M (Kd.int .i64) _ _ _ (-1) [.int .i64 (-1)] from rfl) (Reps.one (show Kd.M (Kd.int .i64) _ _ _ 1 [.int .i64 1] from rfl) (Reps.one (show Kd.M (Kd.int .i64) _ _ _ 0 [.int .i64 0] from rfl) (Reps.none _ _))))); intro v480 w26 ho27 hb hg_ hnew_; clear hg_ hnew_; (first | rw [← Ny479.out] at ho27 | (simp only [Int.reduceToNat] at ho27; rw [← Ny479.out] at ho27)); have n0_ := Aside0.mk (Kd.R_elder' (by apply_rules [HO468.out, Kd.R_alloc, Kd.R_drewN, Kd.R_drew]) (Kd.R_base ho27) hb); have n1_ := Aside0.mk (Kd.V_elder' (by apply_rules [HO471.out, Kd.V_alloc, Kd.V_drewN, Kd.V_drew]) (Kd.R_base ho27) hb); have n2_ := Aside0.mk (Kd.R_lower (Kd.R_new' ho27 (Kd.R_lt (by apply_rules [HO468.out, Kd.R_alloc, Kd.R_drewN, Kd.R_drew]))) (below_size (by apply_rules [HB.out, below_alloc, pw_below_drewN, below_drew1]))); have n3_ := Aside0.mk (below_step (by apply_rules [HB.out, below_alloc, pw_below_drewN, below_drew1]) hb); clear HO468; clear HO471; clear HB; have HO468 := n0_; have HO471 := n1_; have HO481 := n2_; have HB := n3_; clear n0_ n1_ n2_ n3_; clear hb ho27) | ((with_reducible refine gate_dst (N := 42) rfl ?_); (try (refine gate_guard (by rfl) ?_; dsimp only)); refine Kd.R_lit (Kd.int .i64) _ 3 ?hg (N := 42) ?hd (xs := ([3, (-3), 1] : List Int)) (inner := [.int .i64 3, .int .i64 (-3), .int .i64 1]) (ok := fun _ => True) (okp := fun _ => True) ?hr ?hp (fun _ hk => hk) trivial (Below.refl _ _) (Nat.le_refl _) (by simp) ?_; (case hd => rfl); (case hg => rfl); (case hr => go_simp; try rfl); (case hp => exact (Reps.one (show Kd.M (Kd.int .i64) _ _ _ 3 [.int .i64 3] from rfl) (Reps.one (show Kd.M (Kd.int .i64) _ _ _ (-3) [.int .i64 (-3)] from rfl) (Reps.one (show Kd.M (Kd.int .i64) _ _ _ 1 [.int .i64 1] from rfl) (Reps.none _ _))))); intro v483 w28 ho29 hb hg_ hnew_; clear hg_ hnew_; (first | rw [← Ny482.out] at ho29 | (simp only [Int.reduceToNat] at ho29; rw [← Ny482.out] at ho29)); have n0_ := Aside0.mk (Kd.R_elder' (by apply_rules [HO468.out, Kd.R_alloc, Kd.R_drewN, Kd.R_drew]) (Kd.R_base ho29) hb); have n1_ := Aside0.mk (Kd.V_elder' (by apply_rules [HO471.out, Kd.V_alloc, Kd.V_drewN, Kd.V_drew]) (Kd.R_base ho29) hb); have n2_ := Aside0.mk (Kd.R_elder' (by apply_rules [HO481.out, Kd.R_alloc, Kd.R_drewN, Kd.R_drew]) (Kd.R_base ho29) hb); have n3_ := Aside0.mk (Kd.R_lower (Kd.R_new' (Kd.R_new' ho29 (Kd.R_lt (by apply_rules [HO468.out, Kd.R_alloc, Kd.R_drewN, Kd.R_drew]))) (Kd.R_lt (by apply_rules [HO481.out, Kd.R_alloc, Kd.R_drewN, Kd.R_drew]))) (below_size (by apply_rules [HB.out, below_alloc, pw_below_drewN, below_drew1]))); have n4_ := Aside0.mk (below_step (by apply_rules [HB.out, below_alloc, pw_below_drewN, below_drew1]) hb); clear HO468; clear HO471; clear HO481; clear HB; have HO468 := n0_; have HO471 := n1_; have HO481 := n2_; have HO484 := n3_; have HB := n4_; clear n0_ n1_ n2_ n3_ n4_; clear hb ho29; obtain ⟨Ao30, co30, eo30⟩ := Kd.R_slice HO481.out; subst eo30; obtain ⟨Ao31, co31, eo31⟩ := Kd.R_slice HO484.out; subst eo31) | ((with_reducible refine gate_callee (f := 45) rfl ?_); refine goesK (some 43) Tryz.func45 [.slice Ao20 y466.length co20, .slice Ao30 y479.length co30, .slice Ao31 y482.length co31] rfl rfl ?_; (with_reducible refine (monzo_Compare.calls k _ _ y466 (fun k_ => some k_ = (.slice Ao30 y479.length co30 : Value).ownBlock) _ _ y479 (fun k_ => some k_ = (.slice Ao31 y482.length co31 : Value).ownBlock) _ _ y482 t485 t486 _ ?side1 ?side2 ?side3 ?side4 ?side5 A5.out).mono ?_); (case side1 => refine TabW.below hT ?_; apply_rules [HB.out, below_alloc, pw_below_drewN, below_drew1]); (case side2 => apply_rules [(Kd.R_reads' HO468.out).2.2, Kd.C_alloc, Kd.C_drewN, Kd.C_drew]); (case side3 => exact (Kd.R_reads' HO468.out).2.1); (case side4 => exact Kd.R_V (Kd.R_tight rfl (HO481.out))); (case side5 => exact Kd.R_V (Kd.R_tight rfl (HO484.out))); rintro e w32 ⟨rfl, hb⟩; refine ⟨_, rfl, ?_⟩; replace HO468 := Aside0.mk (Kd.R_below (by apply_rules [HO468.out, Kd.R_alloc, Kd.R_drewN, Kd.R_drew]) hb); replace HO471 := Aside0.mk (Kd.V_below (by apply_rules [HO471.out, Kd.V_alloc, Kd.V_drewN, Kd.V_drew]) hb); replace HO481 := Aside0.mk (Kd.R_below (by apply_rules [HO481.out, Kd.R_alloc, Kd.R_drewN, Kd.R_drew]) hb); replace HO484 := Aside0.mk (Kd.R_below (by apply_rules [HO484.out, Kd.R_alloc, Kd.R_drewN, Kd.R_drew]) hb); replace HB := Aside0.mk (below_step (by apply_rules [HB.out, below_alloc, pw_below_drewN, below_drew1]) hb); (try clear hb)) | ((with_reducible refine gate_callee (f := 31) rfl ?_); refine goesK (some 49) Tryz.func31 [.slice Ao20 y466.length co20, .agg #[.string (⟨#[55]⟩ : ByteArray), .string (⟨#[52]⟩ : ByteArray)]] rfl rfl ?_; (with_reducible refine (monzo_Of.calls k _ _ y466 (⟨#[55]⟩ : ByteArray) (⟨#[52]⟩ : ByteArray) t487 t490 _ ?side1 ?side2 ?side3 A6.out).mono ?_); (case side1 => refine TabW.below hT ?_; apply_rules [HB.out, below_alloc, pw_below_drewN, below_drew1]); (case side2 => apply_rules [(Kd.R_reads' HO468.out).2.2, Kd.C_alloc, Kd.C_drewN, Kd.C_drew]); (case side3 => exact (Kd.R_reads' HO468.out).2.1); rintro e w33 ⟨v488, rfl, ho0, hb⟩; refine ⟨_, rfl, ?_⟩; have n0_ := Aside0.mk (Kd.R_below (by apply_rules [HO468.out, Kd.R_alloc, Kd.R_drewN, Kd.R_drew]) hb); have n1_ := Aside0.mk (Kd.V_below (by apply_rules [HO471.out, Kd.V_alloc, Kd.V_drewN, Kd.V_drew]) hb); have n2_ := Aside0.mk (Kd.R_below (by apply_rules [HO481.out, Kd.R_alloc, Kd.R_drewN, Kd.R_drew]) hb); have n3_ := Aside0.mk (Kd.R_below (by apply_rules [HO484.out, Kd.R_alloc, Kd.R_drewN, Kd.R_drew]) hb); have n4_ := Aside0.mk (Kd.V_lower (Kd.V_mono (ok' := fun k_ => some k_ ≠ (.slice Ao20 y466.length co20 : Value).ownBlock ∧ some k_ ≠ (.slice Ao30 y479.length co30 : Value).ownBlock ∧ some k_ ≠ (.slice Ao31 y482.length co31 : Value).ownBlock) ho0 (fun k_ hk_ => ⟨(Kd.fresh' (Kd.R_lt (by apply_rules [HO468.out, Kd.R_alloc, Kd.R_drewN, Kd.R_drew])) k_ hk_), (Kd.fresh' (Kd.R_lt (by apply_rules [HO481.out, Kd.R_alloc, Kd.R_drewN, Kd.R_drew])) k_ hk_), (Kd.fresh' (Kd.R_lt (by apply_rules [HO484.out, Kd.R_alloc, Kd.R_drewN, Kd.R_drew])) k_ hk_)⟩)) (below_size (by apply_rules [HB.out, below_alloc, pw_below_drewN, below_drew1]))); have n5_ := Aside0.mk (below_step (by apply_rules [HB.out, below_alloc, pw_below_drewN, below_drew1]) hb); clear HO468; clear HO471; clear HO481; clear HO484; clear HB; have HO468 := n0_; have HO471 := n1_; have HO481 := n2_; have HO484 := n3_; have HO489 := n4_; have HB := n5_; clear n0_ n1_ n2_ n3_ n4_ n5_; (try clear hb); (try clear ho0)) | ((with_reducible refine gate_dst (N := 56) rfl ?_); (try (refine gate_guard (by rfl) ?_; dsimp only)); refine Kd.R_lit (Kd.int .i64) _ 3 ?hg (N := 56) ?hd (xs := ([(-4), 4, (-1)] : List Int)) (inner := [.int .i64 (-4), .int .i64 4, .int .i64 (-1)]) (ok := fun _ => True) (okp := fun _ => True) ?hr ?hp (fun _ hk => hk) trivial (Below.refl _ _) (Nat.le_refl _) (by simp) ?_; (case hd => rfl); (case hg => rfl); (case hr => go_simp; try rfl); (case hp => exact (Reps.one (show Kd.M (Kd.int .i64) _ _ _ (-4) [.int .i64 (-4)] from rfl) (Reps.one (show Kd.M (Kd.int .i64) _ _ _ 4 [.int .i64 4] from rfl) (Reps.one (show Kd.M (Kd.int .i64) _ _ _ (-1) [.int .i64 (-1)] from rfl) (Reps.none _ _))))); intro v492 w34 ho35 hb hg_ hnew_; clear hg_ hnew_; (first | rw [← Ny491.out] at ho35 | (simp only [Int.reduceToNat] at ho35; rw [← Ny491.out] at ho35)); have n0_ := Aside0.mk (Kd.R_elder' (by apply_rules [HO468.out, Kd.R_alloc, Kd.R_drewN, Kd.R_drew]) (Kd.R_base ho35) hb); have n1_ := Aside0.mk (Kd.V_elder' (by apply_rules [HO471.out, Kd.V_alloc, Kd.V_drewN, Kd.V_drew]) (Kd.R_base ho35) hb); have n2_ := Aside0.mk (Kd.R_elder' (by apply_rules [HO481.out, Kd.R_alloc, Kd.R_drewN, Kd.R_drew]) (Kd.R_base ho35) hb); have n3_ := Aside0.mk (Kd.R_elder' (by apply_rules [HO484.out, Kd.R_alloc, Kd.R_drewN, Kd.R_drew]) (Kd.R_base ho35) hb); have n4_ := Aside0.mk (Kd.V_elder' (by apply_rules [HO489.out, Kd.V_alloc, Kd.V_drewN, Kd.V_drew]) (Kd.R_base ho35) hb); have n5_ := Aside0.mk (Kd.R_lower (Kd.R_new' (Kd.R_new' (Kd.R_new' ho35 (Kd.R_lt (by apply_rules [HO468.out, Kd.R_alloc, Kd.R_drewN, Kd.R_drew]))) (Kd.R_lt (by apply_rules [HO481.out, Kd.R_alloc, Kd.R_drewN, Kd.R_drew]))) (Kd.R_lt (by apply_rules [HO484.out, Kd.R_alloc, Kd.R_drewN, Kd.R_drew]))) (below_size (by apply_rules [HB.out, below_alloc, pw_below_drewN, below_drew1]))); have n6_ := Aside0.mk (below_step (by apply_rules [HB.out, below_alloc, pw_below_drewN, below_drew1]) hb); clear HO468; clear HO471; clear HO481; clear HO484; clear HO489; clear HB; have HO468 := n0_; have HO471 := n1_; have HO481 := n2_; have HO484 := n3_; have HO489 := n4_; have HO493 := n5_; have HB := n6_; clear n0_ n1_ n2_ n3_ n4_ n5_ n6_; clear hb ho35; obtain ⟨Ao36, co36, eo36⟩ := Kd.R_slice HO493.out; subst eo36) | (go_at_call 34; (with_reducible refine (schismalaw12_Same.calls k _ _ t469 _ _ y491 true _ ?side1 ?side2 ?side3 ?side4 A8.out).mono ?_); (case side1 => apply_rules [(Kd.V_reads' HO471.out).2.2, Kd.C_alloc, Kd.C_drewN, Kd.C_drew]); (case side2 => exact (Kd.V_reads' HO471.out).2.1); (case side3 => apply_rules [(Kd.R_reads' HO493.out).2.2, Kd.C_alloc, Kd.C_drewN, Kd.C_drew]); (case side4 => exact (Kd.R_reads' HO493.out).2.1); rintro e w' ⟨rfl, ⟨nd, rfl⟩⟩))
  go_ret
  exact ⟨by first | rfl | simp [*], by apply_rules [HB.out, below_alloc, pw_below_drewN, below_drew1]⟩
 ·replace c9 := Bool.eq_false_iff.mpr c9
  subst c9
  have H1 : (some false) = some r := by rw [if_neg (show ¬ (false = true) by decide)] at H; exact H
  clear H
  have H := H1
  clear H1
  exact absurd ((Option.some.inj H).trans hr) Bool.false_ne_true
end Go.Proofs.YtccebdpjdpjgnaaGreatDoor.P
end
