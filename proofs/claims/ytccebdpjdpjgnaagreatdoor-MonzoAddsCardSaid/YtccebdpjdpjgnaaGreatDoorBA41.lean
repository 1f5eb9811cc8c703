/-
parts of the walks and of the plain laws: QAdds Door2
-/
import Derived.Test.YtccebdpjdpjgnaaGreatDoorBA38
import Derived.Test.YtccebdpjdpjgnaaGreatDoorBA40
import Derived.Test.YtccebdpjdpjgnaaGreatDoorBA07
set_option linter.unusedVariables false
set_option linter.unusedSimpArgs false
set_option linter.unusedSectionVars false
section
namespace Go.Proofs.YtccebdpjdpjgnaaGreatDoor.Q
open Go.Lib hiding bytesOf bytesOf_length
open Go Go.RowKit Sch Go.Proofs.YtccebdpjdpjgnaaGreatDoor.P Go.Proofs.YtccebdpjdpjgnaaGreatDoorW.PrintWords Go.Proofs.YtccebdpjdpjgnaaGreatDoorW.PrintLast Go.Proofs.YtccebdpjdpjgnaaGreatDoorW.PrintMore
section
def rB (m x : Int) : Bool := decide (x = 0 ∨ (-1000 ≤ m * x ∧ m * x ≤ 1000))
theorem lim_q (x : Int) (h : -9 ≤ x ∧ x ≤ 9) (h0 : x ≠ 0) : ∃ q, Int.tdiv 1000 (x.natAbs : Int) = q ∧ 100 ≤ q ∧ q ≤ 1000 ∧ ∀ m, (rB m x = true ↔ (m ≤ q ∧ m ≥ -q)) := by
 rcases (show x = -9 ∨ x = -8 ∨ x = -7 ∨ x = -6 ∨ x = -5 ∨ x = -4 ∨ x = -3 ∨ x = -2 ∨ x = -1 ∨ x = 0 ∨ x = 1 ∨ x = 2 ∨ x = 3 ∨ x = 4 ∨ x = 5 ∨ x = 6 ∨ x = 7 ∨ x = 8 ∨ x = 9 by omega) with rfl | rfl | rfl | rfl | rfl | rfl | rfl | rfl | rfl | rfl | rfl | rfl | rfl | rfl | rfl | rfl | rfl | rfl | rfl
 ·exact ⟨111, by decide, by decide, by decide, fun m => by unfold rB; rw [decide_eq_true_eq]; omega⟩
 ·exact ⟨125, by decide, by decide, by decide, fun m => by unfold rB; rw [decide_eq_true_eq]; omega⟩
 ·exact ⟨142, by decide, by decide, by decide, fun m => by unfold rB; rw [decide_eq_true_eq]; omega⟩
 ·exact ⟨166, by decide, by decide, by decide, fun m => by unfold rB; rw [decide_eq_true_eq]; omega⟩
 ·exact ⟨200, by decide, by decide, by decide, fun m => by unfold rB; rw [decide_eq_true_eq]; omega⟩
 ·exact ⟨250, by decide, by decide, by decide, fun m => by unfold rB; rw [decide_eq_true_eq]; omega⟩
 ·exact ⟨333, by decide, by decide, by decide, fun m => by unfold rB; rw [decide_eq_true_eq]; omega⟩
 ·exact ⟨500, by decide, by decide, by decide, fun m => by unfold rB; rw [decide_eq_true_eq]; omega⟩
 ·exact ⟨1000, by decide, by decide, by decide, fun m => by unfold rB; rw [decide_eq_true_eq]; omega⟩
 ·exact absurd rfl h0
 ·exact ⟨1000, by decide, by decide, by decide, fun m => by unfold rB; rw [decide_eq_true_eq]; omega⟩
 ·exact ⟨500, by decide, by decide, by decide, fun m => by unfold rB; rw [decide_eq_true_eq]; omega⟩
 ·exact ⟨333, by decide, by decide, by decide, fun m => by unfold rB; rw [decide_eq_true_eq]; omega⟩
 ·exact ⟨250, by decide, by decide, by decide, fun m => by unfold rB; rw [decide_eq_true_eq]; omega⟩
 ·exact ⟨200, by decide, by decide, by decide, fun m => by unfold rB; rw [decide_eq_true_eq]; omega⟩
 ·exact ⟨166, by decide, by decide, by decide, fun m => by unfold rB; rw [decide_eq_true_eq]; omega⟩
 ·exact ⟨142, by decide, by decide, by decide, fun m => by unfold rB; rw [decide_eq_true_eq]; omega⟩
 ·exact ⟨125, by decide, by decide, by decide, fun m => by unfold rB; rw [decide_eq_true_eq]; omega⟩
 ·exact ⟨111, by decide, by decide, by decide, fun m => by unfold rB; rw [decide_eq_true_eq]; omega⟩
theorem abs_val9 (a : Int) (h : -1000000 ≤ a ∧ a ≤ 1000000) : schismalaw12_abs.f a = some (a.natAbs : Int) := by
 unfold schismalaw12_abs.f
 split
 ·rw [w64 (by omega) (by omega)]; congr 1; omega
 ·congr 1; omega
theorem comb_get (s : Int) : ∀ (xs ys : List Int) (i : Nat), i < xs.length → i < ys.length → (comb s xs ys).getD i 0 = xs.getD i 0 + s * ys.getD i 0
 | [], _, _, h, _ => by simp at h
 | _ :: _, [], _, _, h => by simp at h
 | x :: xs, y :: ys, 0, _, _ => rfl
 | x :: xs, y :: ys, i + 1, h, g => by
  have := comb_get s xs ys i (by simpa using h) (by simpa using g)
  unfold comb at this ⊢
  rw [List.zipWith_cons_cons, List.getD_cons_succ, List.getD_cons_succ, List.getD_cons_succ, this]
theorem map_get (m : Int) : ∀ (xs : List Int) (i : Nat), (xs.map (m * ·)).getD i 0 = m * xs.getD i 0
 | [], i => by simp
 | x :: xs, 0 => rfl
 | x :: xs, i + 1 => by
  rw [List.map_cons, List.getD_cons_succ, List.getD_cons_succ, map_get m xs i]
theorem clamp_far {m x : Int} (h : -9 ≤ x ∧ x ≤ 9) : rB m x = true ↔ (-1000 ≤ clamp m * x ∧ clamp m * x ≤ 1000) := by
 by_cases h0 : x = 0
 ·subst h0; unfold rB; simp
 ·obtain ⟨q, _, q1, q2, q3⟩ := lim_q x h h0
  obtain ⟨q', _, _, _, q4⟩ := lim_q x h h0
  have e := q3 m
  have e2 := q3 (clamp m)
  have e3 : rB (clamp m) x = true ↔ (-1000 ≤ clamp m * x ∧ clamp m * x ≤ 1000) := by
   unfold rB
   rw [decide_eq_true_eq]
   constructor
   ·rintro (h | h)
    ·exact absurd h h0
    ·exact h
   ·exact Or.inr
  rw [← e3, e, e2]
  unfold clamp
  split
  ·omega
  ·split <;> omega
theorem clamp_eq {m x : Int} (h : -9 ≤ x ∧ x ≤ 9) (h0 : x ≠ 0) (hr : rB m x = true) : clamp m = m ∧ -1000 ≤ m * x ∧ m * x ≤ 1000 := by
 obtain ⟨q, _, q1, q2, q3⟩ := lim_q x h h0
 have := (q3 m).1 hr
 have e : clamp m = m := by unfold clamp; split <;> (try split) <;> omega
 have := (clamp_far h).1 hr
 rw [e] at this
 exact ⟨e, this⟩
theorem far_clamp (m : Int) : ∀ xs : List Int, (∀ x ∈ xs, -9 ≤ x ∧ x ≤ 9) → far (xs.map (clamp m * ·)) = !(xs.all (rB m))
 | [], _ => rfl
 | x :: xs, h => by
  rw [List.map_cons, far_cons, far_clamp m xs (fun y hy => h y (by simp [hy])), List.all_cons, Bool.not_and]
  congr 1
  have := clamp_far (m := m) (h x (by simp))
  by_cases hr : rB m x = true
  ·have := this.1 hr
   rw [hr, decide_eq_false (by omega)]; rfl
  ·have h2 : rB m x = false := by simpa using hr
   rw [h2, decide_eq_true]; rfl
   rw [this] at hr
   omega
section
variable (ps : List Nat) (xs ys : List Int) (m : Int) (hl : xs.length = ps.length) (yl : ys.length = ps.length) (h8 : ps.length ≤ 8) (hx : ∀ x ∈ xs, -9 ≤ x ∧ x ≤ 9) (hy : ∀ x ∈ ys, -9 ≤ x ∧ x ≤ 9)
include hl yl h8 hx hy
theorem adds_loop (P : List Int) (pe : Int) : ∀ (c i : Nat) (right : Bool), ps.length = i + c →
  Ev (fun k => if (right && (xs.drop i).all (rB m)) = true then schismalaw12_MonzoAdds.l1 k m (il ps) xs P pe 0 else (if (P.length : Int) = 0 then some (pe == 4) else some false)) true →
  Ev (fun k => schismalaw12_MonzoAdds.l0 k m (il ps) xs ys (comb 1 xs ys) (comb (-1) xs ys) (xs.map (-1 * ·)) P pe right (i : Int)) true := by
 intro c
 induction c with
 | zero =>
  intro i right hi hk
  refine Ev.succ ?_
  simp only [schismalaw12_MonzoAdds.l0, il_length]
  rw [List.drop_of_length_le (by omega), List.all_nil, Bool.and_true] at hk
  exact Ev.ite_neg (by omega) hk
 | succ c ih =>
  intro i right hi hk
  have i1 : i < xs.length := by omega
  have i2 : i < ys.length := by omega
  have bx := hx _ (getDI_mem xs i i1)
  have by1 := hy _ (getDI_mem ys i i2)
  have l1 := comb_len 1 xs ys
  have l2 := comb_len (-1) xs ys
  have l3 : (xs.map (-1 * ·)).length = xs.length := List.length_map _
  refine Ev.succ ?_
  simp only [schismalaw12_MonzoAdds.l0, il_length]
  rw [rd_nat, rd_nat, rd_nat, rd_nat, rd_nat, comb_get 1 xs ys i i1 i2, comb_get (-1) xs ys i i1 i2, map_get]
  rw [drop_getD xs i i1, List.all_cons] at hk
  have hn : ((-1 * xs.getD i 0) != wrap64 (-xs.getD i 0)) = false := by
   rw [w64 (by omega) (by omega)]
   simp
  rw [hn]
  refine Ev.ite_pos (by omega) (Ev.ite_pos (by omega) (Ev.ite_pos (by omega) (Ev.ite_pos (by omega) (Ev.ite_pos (by omega) (Ev.ite_pos (by rw [w64 (by omega) (by omega)]; omega) (Ev.ite_pos (by omega) (Ev.ite_pos (by rw [w64 (by omega) (by omega)]; omega) (Ev.ite_pos (by omega) ?_))))))))
  refine Ev.succ ?_
  simp only [schismalaw12_MonzoAdds.j2]
  rw [rd_nat, w64 (x := (i : Int) + 1) (by omega) (by omega)]
  refine Ev.ite_neg (by simp) ?_
  cases right with
  | false =>
   refine Ev.ite_neg (by simp) ?_
   rw [Bool.false_and] at hk
   have := ih (i + 1) false (by omega) (by rw [Bool.false_and]; exact hk)
   simpa using this
  | true =>
   rw [Bool.true_and] at hk
   refine Ev.ite_pos rfl (Ev.ite_pos (by omega) (Ev.ite_pos (by omega) ?_))
   generalize xs.getD i 0 = x at *
   by_cases h0 : x = 0
   ·refine Ev.ite_pos h0 ?_
    have hb : rB m x = true := by unfold rB; rw [decide_eq_true_eq]; exact .inl h0
    rw [hb, Bool.true_and] at hk
    have := ih (i + 1) true (by omega) (by rw [Bool.true_and]; exact hk)
    simpa using this
   ·refine Ev.ite_neg h0 (Ev.bindc (abs_val9 x (by omega)) (Ev.ite_neg (by omega) ?_))
    obtain ⟨q, e, q1, q2, q3⟩ := lim_q x bx h0
    rw [e, w64 (x := q) (by omega) (by omega)]
    have q4 := q3 m
    by_cases c1 : m ≤ q
    ·refine Ev.ite_pos c1 (Ev.bindc (abs_val9 x (by omega)) ?_)
     rw [e, w64 (x := q) (by omega) (by omega), w64 (x := -q) (by omega) (by omega)]
     refine Ev.ite_neg (by omega) ?_
     have hb : rB m x = decide (m ≥ -q) := by
      rw [Bool.eq_iff_iff, q4, decide_eq_true_eq]
      omega
     rw [hb] at hk
     have := ih (i + 1) (decide (m ≥ -q)) (by omega) hk
     simpa using this
    ·refine Ev.ite_neg c1 ?_
     have hb : rB m x = false := by
      rw [Bool.eq_false_iff, Ne, q4]
      omega
     rw [hb, Bool.false_and] at hk
     have := ih (i + 1) false (by omega) (by rw [Bool.false_and]; exact hk)
     simpa using this
theorem adds_last (hr : xs.all (rB m) = true) : ∀ (c i : Nat), ps.length = i + c → Ev (fun k => schismalaw12_MonzoAdds.l1 k m (il ps) xs (xs.map (clamp m * ·)) 0 (i : Int)) true := by
 intro c
 induction c with
 | zero =>
  intro i hi
  refine Ev.succ ?_
  simp only [schismalaw12_MonzoAdds.l1, il_length]
  exact Ev.ite_neg (by omega) (Ev.val rfl)
 | succ c ih =>
  intro i hi
  have i1 : i < xs.length := by omega
  have hm := getDI_mem xs i i1
  have bx := hx _ hm
  have hb : rB m (xs.getD i 0) = true := List.all_eq_true.1 hr _ hm
  have l3 : (xs.map (clamp m * ·)).length = xs.length := List.length_map _
  refine Ev.succ ?_
  simp only [schismalaw12_MonzoAdds.l1, il_length]
  rw [rd_nat, rd_nat, map_get, w64 (x := (i : Int) + 1) (by omega) (by omega)]
  have step := ih (i + 1) (by omega)
  have step2 : Ev (fun k => schismalaw12_MonzoAdds.l1 k m (il ps) xs (xs.map (clamp m * ·)) 0 ((i : Int) + 1)) true := by simpa using step
  refine Ev.ite_pos (by omega) (Ev.ite_pos (by omega) (Ev.ite_pos (by omega) (Ev.ite_pos (by omega) ?_)))
  generalize xs.getD i 0 = x at *
  by_cases h0 : x = 0
  ·exact Ev.ite_pos h0 (Ev.ite_pos (by omega) (Ev.ite_pos (by rw [h0, Int.mul_zero]) step2))
  ·obtain ⟨e, e1, e2⟩ := clamp_eq bx h0 hb
   exact Ev.ite_neg h0 (Ev.ite_pos (by omega) (Ev.ite_pos (by rw [e, w64 (by omega) (by omega)]) step2))
end
theorem adds_ev (a0 a1 a2 a3 a4 b0 b1 b2 b3 m : Int) (h0 : 0 ≤ a0) (h1 : a0 ≤ 255) : Ev (fun k => schismalaw12_MonzoAdds.f k a0 a1 a2 a3 a4 b0 b1 b2 b3 m) true := by
 obtain ⟨ps, xs, hok, hl, hx, _, hm⟩ := make_ev a0 a1 a2 a3 a4 h0 h1
 obtain ⟨ys, yl, hy, yv⟩ := interval_val ps (okL_facts hok).1 b0 b1 b2 b3
 have sx : Small 9 xs := hx
 have sy : Small 9 ys := hy
 have h8 : ps.length ≤ 4 := (okL_facts hok).1
 have fx : Fit ps xs := okL_fit hok hl (fun x m => by have := sx x m; omega)
 have fy : Fit ps ys := okL_fit hok yl (fun x m => by have := sy x m; omega)
 have e1 := Ev.eq (fx.add fy) ((Small.comb (s := 1) (.inl rfl) sx sy).farR (by omega))
 have e2 := Ev.eq (fx.sub fy) ((Small.comb (s := -1) (.inr rfl) sx sy).farR (by omega))
 have l1 := comb_len 1 xs ys
 have l2 := comb_len (-1) xs ys
 have l3 : (xs.map (-1 * ·)).length = xs.length := List.length_map _
 unfold schismalaw12_MonzoAdds.f
 refine Ev.bind known_ev (Ev.ite_pos rfl (Ev.bind (Ev.congr hm (Ev.now _)) (Ev.bind (Ev.congr yv (Ev.now _)) (Ev.bind e1 (Ev.bind e2 (Ev.bind fx.neg (Ev.bind (fx.power m) ?_)))))))
 dsimp only
 rw [bne_self_eq_false]
 refine Ev.ite_pos (by rw [il_length]; omega) (Ev.ite_pos (by rw [il_length]; omega) (Ev.ite_pos (by rw [il_length]; omega) (Ev.ite_pos rfl (Ev.ite_pos rfl ?_))))
 refine Ev.succ ?_
 simp only [schismalaw12_MonzoAdds.j0]
 refine Ev.ite_neg (by simp) ?_
 refine adds_loop ps xs ys m hl yl (by omega) hx hy _ _ ps.length 0 true (by omega) ?_
 rw [List.drop_zero, Bool.true_and]
 unfold farR
 rw [far_clamp m xs hx]
 by_cases hr : xs.all (rB m) = true
 ·rw [hr]
  exact Ev.ite_pos rfl (adds_last ps xs ys m hl yl (by omega) hx hy hr ps.length 0 (by omega))
 ·have hf : xs.all (rB m) = false := by simpa using hr
  rw [hf]
  exact Ev.ite_neg (by simp) (Ev.val rfl)
end
end Go.Proofs.YtccebdpjdpjgnaaGreatDoor.Q
end
section
namespace Go.Proofs.YtccebdpjdpjgnaaGreatDoor.D
open Go.ChangeShapes Go.WideShapes Go.ChangeAt Go.RowKit Go.Proofs.YtccebdpjdpjgnaaGreatDoorW.PrintWords
set_option maxRecDepth 100000
theorem open_l4 {w : World} {base : Nat} {v : Value} (h : Value.okWide Tryz.prog w .any base 48 v) : ∃ b c d e : Int, v = .agg #[.int .i8 b, .int .i8 c, .int .i8 d, .int .i8 e] := by
 obtain ⟨cs, rfl, hs, hall⟩ := open_cells (ts := [47, 47, 47, 47]) (.inr ⟨_, _, Tryz.underlying48⟩) (by kernel_rfl) (by kernel_rfl) h
 obtain ⟨x0, h0, k0⟩ := hall 0 47 rfl
 obtain ⟨x1, h1, k1⟩ := hall 1 47 rfl
 obtain ⟨x2, h2, k2⟩ := hall 2 47 rfl
 obtain ⟨x3, h3, k3⟩ := hall 3 47 rfl
 obtain ⟨a, rfl, _⟩ := cell_int Tryz.underlying47 k0
 obtain ⟨b, rfl, _⟩ := cell_int Tryz.underlying47 k1
 obtain ⟨c, rfl, _⟩ := cell_int Tryz.underlying47 k2
 obtain ⟨d, rfl, _⟩ := cell_int Tryz.underlying47 k3
 refine ⟨a, b, c, d, ?_⟩
 congr 1
 apply Array.ext_getElem?
 intro i
 rcases (show i = 0 ∨ i = 1 ∨ i = 2 ∨ i = 3 ∨ 4 ≤ i by omega) with rfl | rfl | rfl | rfl | hi
 ·exact h0
 ·exact h1
 ·exact h2
 ·exact h3
 ·rw [Array.getElem?_eq_none (by rw [hs]; exact hi), Array.getElem?_eq_none (by exact hi)]
end Go.Proofs.YtccebdpjdpjgnaaGreatDoor.D
end
