/-
parts of the walks and of the plain laws: QOrders Door2
-/
import Derived.Test.YtccebdpjdpjgnaaGreatDoorBR41
import Derived.Test.YtccebdpjdpjgnaaGreatDoorBR42
import Derived.Test.YtccebdpjdpjgnaaGreatDoorBR07
set_option linter.unusedVariables false
set_option linter.unusedSimpArgs false
section
namespace Go.Proofs.YtccebdpjdpjgnaaGreatDoor.Q
open Go.Lib hiding bytesOf bytesOf_length
open Go Go.RowKit Sch Go.Proofs.YtccebdpjdpjgnaaGreatDoor.P Go.Proofs.YtccebdpjdpjgnaaGreatDoorW.PrintWords Go.Proofs.YtccebdpjdpjgnaaGreatDoorW.PrintLast Go.Proofs.YtccebdpjdpjgnaaGreatDoorW.PrintMore
theorem comb_one (xs ys : List Int) : comb 1 xs ys = List.zipWith (· + ·) xs ys := by
 unfold comb
 congr 1
 funext a b
 omega
theorem cmp_scale (A B X Y C D : Nat) (hC : 0 < C) (hD : 0 < D) (h1 : A * C = X * D) (h2 : B * C = Y * D) : cmpI (A : Int) B = cmpI (X : Int) Y := by
 have e1 : A < B ↔ X < Y := by rw [← Nat.mul_lt_mul_right hC, h1, h2, Nat.mul_lt_mul_right hD]
 have e2 : A = B ↔ X = Y := by
  constructor
  ·rintro rfl; exact Nat.eq_of_mul_eq_mul_right hD (h1.symm.trans h2)
  ·rintro rfl; exact Nat.eq_of_mul_eq_mul_right hC (h1.trans h2.symm)
 unfold cmpI
 by_cases c1 : A < B
 ·have c2 := e1.1 c1
  have d1 : (A : Int) < B := by exact_mod_cast c1
  have d2 : (X : Int) < Y := by exact_mod_cast c2
  rw [if_pos d1, if_pos d2]
 ·have c2 : ¬ X < Y := fun h => c1 (e1.2 h)
  have d1 : ¬ (A : Int) < B := fun h => c1 (by exact_mod_cast h)
  have d2 : ¬ (X : Int) < Y := fun h => c2 (by exact_mod_cast h)
  rw [if_neg d1, if_neg d2]
  by_cases c3 : A = B
  ·have c4 := e2.1 c3
   rw [if_pos (by rw [c3]), if_pos (by rw [c4])]
  ·have c4 : ¬ X = Y := fun h => c3 (e2.2 h)
   rw [if_neg (fun h => c3 (by exact_mod_cast h)), if_neg (fun h => c4 (by exact_mod_cast h))]
theorem moved {ps : List Nat} {xs ys zs : List Int} (h : Apart ps) (lx : xs.length = zs.length) (ly : ys.length = zs.length) :
  cmpI ((numL ps (comb 1 xs zs) * denL ps (comb 1 ys zs) : Nat) : Int) ((numL ps (comb 1 ys zs) * denL ps (comb 1 xs zs) : Nat) : Int) = cmpI ((numL ps xs * denL ps ys : Nat) : Int) ((numL ps ys * denL ps xs : Nat) : Int) := by
 have e1 := numL_add ps xs zs _ (comb_one xs zs) lx
 have e2 := numL_add ps ys zs _ (comb_one ys zs) ly
 have p1 := denL_pos ps xs h
 have p2 := denL_pos ps ys h
 have p3 := denL_pos ps zs h
 have p4 := numL_pos ps zs h
 have p5 := denL_pos ps (comb 1 xs zs) h
 have p6 := denL_pos ps (comb 1 ys zs) h
 generalize numL ps (comb 1 xs zs) = nu at *
 generalize numL ps (comb 1 ys zs) = nv at *
 generalize denL ps (comb 1 xs zs) = du at *
 generalize denL ps (comb 1 ys zs) = dv at *
 generalize numL ps xs = nx at *
 generalize numL ps ys = ny at *
 generalize numL ps zs = nz at *
 generalize denL ps xs = dx at *
 generalize denL ps ys = dy at *
 generalize denL ps zs = dz at *
 refine cmp_scale _ _ _ _ (dx * dy * dz) (nz * du * dv) (Nat.mul_pos (Nat.mul_pos p1 p2) p3) (Nat.mul_pos (Nat.mul_pos p4 p5) p6) ?_ ?_
 ·calc nu * dv * (dx * dy * dz) = (nu * dx * dz) * (dv * dy) := by ac_rfl
   _ = (nx * nz * du) * (dv * dy) := by rw [e1]
   _ = _ := by ac_rfl
 ·calc nv * du * (dx * dy * dz) = (nv * dy * dz) * (du * dx) := by ac_rfl
   _ = (ny * nz * dv) * (du * dx) := by rw [e2]
   _ = _ := by ac_rfl
theorem cmpI_swap (a b : Int) : cmpI b a = -cmpI a b := by
 unfold cmpI
 by_cases h : a < b
 ·rw [if_pos h, if_neg (by omega), if_neg (by omega)]; rfl
 ·rw [if_neg h]
  by_cases e : a = b
  ·rw [if_pos e, if_neg (by omega), if_pos e.symm]; rfl
  ·rw [if_neg e, if_pos (by omega)]
theorem cmpI_range (a b : Int) : -1 ≤ cmpI a b ∧ cmpI a b ≤ 1 := by unfold cmpI; split <;> (try split) <;> omega
theorem cmpI_zero (a b : Int) : cmpI a b = 0 ↔ a = b := by unfold cmpI; split <;> (try split) <;> omega
theorem wcompare_ns (a b : Nat) (ha : nDigits a ≤ 100000) (hb : nDigits b ≤ 100000) : whole_Compare.f (ns a) (ns b) = some (cmpI (a : Int) b) := by
 rw [← zs_nat, ← zs_nat]
 exact wcompare_zs a b (by simpa using ha) (by simpa using hb)
theorem orders_ev (a0 a1 a2 a3 a4 b0 b1 b2 b3 c0 c1 c2 c3 : Int) (h0 : 0 ≤ a0) (h1 : a0 ≤ 255) : Ev (fun k => schismalaw12_MonzoOrders.f k a0 a1 a2 a3 a4 b0 b1 b2 b3 c0 c1 c2 c3) true := by
 obtain ⟨ps, xs, hok, hl, hx, _, hm⟩ := make_ev a0 a1 a2 a3 a4 h0 h1
 obtain ⟨ys, yl, hy, yv⟩ := interval_val ps (okL_facts hok).1 b0 b1 b2 b3
 obtain ⟨zs, zl, hz, zv⟩ := interval_val ps (okL_facts hok).1 c0 c1 c2 c3
 have sx : Small 9 xs := hx
 have sy : Small 9 ys := hy
 have sz : Small 9 zs := hz
 have h8 : ps.length ≤ 4 := (okL_facts hok).1
 have hap : Apart ps := (okL_facts hok).2.2.2
 obtain ⟨fx, nx1, nx2⟩ := plan_fit hok hl hx
 obtain ⟨fy, ny1, ny2⟩ := plan_fit hok yl hy
 obtain ⟨e1, l1, s1⟩ := add_ok hok hl zl sx sz (by omega)
 obtain ⟨e2, l2, s2⟩ := add_ok hok yl zl sy sz (by omega)
 have fu : Fit ps (comb 1 xs zs) := okL_fit hok l1 (fun x m => by have := s1 x m; omega)
 have fv : Fit ps (comb 1 ys zs) := okL_fit hok l2 (fun x m => by have := s2 x m; omega)
 unfold schismalaw12_MonzoOrders.f
 have cb := fy.compare fx
 rw [cmpI_swap] at cb
 have cm := fu.compare fv
 rw [moved hap (by omega) (by omega)] at cm
 have m1 := nd_mul (numL ps xs) (denL ps ys)
 have m2 := nd_mul (numL ps ys) (denL ps xs)
 have hr := cmpI_range ((numL ps xs * denL ps ys : Nat) : Int) ((numL ps ys * denL ps xs : Nat) : Int)
 have hsame : (cmpI ((numL ps xs * denL ps ys : Nat) : Int) ((numL ps ys * denL ps xs : Nat) : Int) == 0) = decide (xs = ys) := by
  rw [Bool.eq_iff_iff, beq_iff_eq, decide_eq_true_eq, cmpI_zero]
  constructor
  ·intro h
   exact exps_unique ps xs ys hap hl yl (by exact_mod_cast h)
  ·rintro rfl; rfl
 refine Ev.bind known_ev (Ev.ite_pos rfl (Ev.bind (Ev.congr hm (Ev.now _)) (Ev.bind (Ev.congr yv (Ev.now _)) (Ev.bind (Ev.congr zv (Ev.now _)) (Ev.bind fx.value (Ev.bind fx.sign (Ev.bind (fx.compare fy) (Ev.bind cb (Ev.bind e1 (Ev.bind e2 (Ev.bind cm (Ev.bind fy.value (Ev.bindc (wcompare_ns _ _ (by omega) (by omega)) ?_)))))))))))))
 refine Ev.ite_pos rfl (Ev.ite_pos rfl (Ev.bind (wmul_ns _ _ (by omega) (by omega)) (Ev.bind (wmul_ns _ _ (by omega) (by omega)) (Ev.bindc (wcompare_ns _ _ (by omega) (by omega)) ?_))))
 refine Ev.ite_pos rfl (Ev.ite_pos rfl (Ev.ite_pos (by dsimp only; rw [w64 (by omega) (by omega)]) (Ev.ite_pos rfl (Ev.ite_pos rfl (Ev.ite_pos rfl (Ev.ite_pos rfl (Ev.ite_pos rfl (Ev.bind (same_ev xs ys (by omega) (by omega)) (Ev.val ?_)))))))))
 dsimp only
 rw [hsame]
 simp
end Go.Proofs.YtccebdpjdpjgnaaGreatDoor.Q
end
section
namespace Go.Proofs.YtccebdpjdpjgnaaGreatDoor.D
open Go.ChangeShapes Go.WideShapes Go.ChangeAt Go.RowKit Go.Proofs.YtccebdpjdpjgnaaGreatDoorW.PrintWords
set_option maxRecDepth 100000
theorem open_l4 {w : World} {base : Nat} {v : Value} (h : Value.okWide Tryz.prog w .any base 48 v) : ∃ b c d e : Int, v = .agg #[.int .i8 b, .int .i8 c, .int .i8 d, .int .i8 e] := by
 obtain ⟨cs, rfl, hs, hall⟩ := open_cells (ts := [47, 47, 47, 47]) (.inr ⟨_, _, Tryz.underlying48⟩) (by kernel_rfl) (by kernel_rfl) h
 obtain ⟨x0, h0, k0⟩ := hall 0 47 rfl
 obtain ⟨x1, h1, k1⟩ := hall 1 47 rfl
 obtain ⟨x2, h2, k2⟩ := hall 2 47 rfl
 obtain ⟨x3, h3, k3⟩ := hall 3 47 rfl
 obtain ⟨a, rfl, _⟩ := cell_int Tryz.underlying47 k0
 obtain ⟨b, rfl, _⟩ := cell_int Tryz.underlying47 k1
 obtain ⟨c, rfl, _⟩ := cell_int Tryz.underlying47 k2
 obtain ⟨d, rfl, _⟩ := cell_int Tryz.underlying47 k3
 refine ⟨a, b, c, d, ?_⟩
 congr 1
 apply Array.ext_getElem?
 intro i
 rcases (show i = 0 ∨ i = 1 ∨ i = 2 ∨ i = 3 ∨ 4 ≤ i by omega) with rfl | rfl | rfl | rfl | hi
 ·exact h0
 ·exact h1
 ·exact h2
 ·exact h3
 ·rw [Array.getElem?_eq_none (by rw [hs]; exact hi), Array.getElem?_eq_none (by exact hi)]
end Go.Proofs.YtccebdpjdpjgnaaGreatDoor.D
end
