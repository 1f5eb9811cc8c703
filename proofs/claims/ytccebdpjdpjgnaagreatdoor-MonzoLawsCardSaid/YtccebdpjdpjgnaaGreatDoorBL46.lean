/-
parts of the walks and of the plain laws: QLaws Door2
-/
import Derived.Test.YtccebdpjdpjgnaaGreatDoorBL44
import Derived.Test.YtccebdpjdpjgnaaGreatDoorBL45
import Derived.Test.YtccebdpjdpjgnaaGreatDoorBL07
set_option linter.unusedVariables false
set_option linter.unusedSimpArgs false
section
namespace Go.Proofs.YtccebdpjdpjgnaaGreatDoor.Q
open Go.Lib hiding bytesOf bytesOf_length
open Go Go.RowKit Sch Go.Proofs.YtccebdpjdpjgnaaGreatDoor.P Go.Proofs.YtccebdpjdpjgnaaGreatDoorW.PrintWords Go.Proofs.YtccebdpjdpjgnaaGreatDoorW.PrintLast Go.Proofs.YtccebdpjdpjgnaaGreatDoorW.PrintMore
theorem add_ok {ps : List Nat} {xs ys : List Int} {a b : Int} (h : okL ps = true) (hx : xs.length = ps.length) (hy : ys.length = ps.length) (sx : Small a xs) (sy : Small b ys) (hab : 0 ≤ a ∧ 0 ≤ b ∧ a + b ≤ 1000) :
  Ev (fun k => monzo_Add.f k (il ps) xs ys) (comb 1 xs ys, 0) ∧ (comb 1 xs ys).length = ps.length ∧ Small (a + b) (comb 1 xs ys) := by
 have fx : Fit ps xs := okL_fit h hx (fun x m => by have := sx x m; omega)
 have fy : Fit ps ys := okL_fit h hy (fun x m => by have := sy x m; omega)
 have s := Small.comb (s := 1) (.inl rfl) sx sy
 refine ⟨Ev.eq (fx.add fy) (s.farR hab.2.2), by rw [comb_len, hx, hy, Nat.min_self], s⟩
theorem laws_ev (a0 a1 a2 a3 a4 b0 b1 b2 b3 c0 c1 c2 c3 : Int) (h0 : 0 ≤ a0) (h1 : a0 ≤ 255) : Ev (fun k => schismalaw12_MonzoLaws.f k a0 a1 a2 a3 a4 b0 b1 b2 b3 c0 c1 c2 c3) true := by
 obtain ⟨ps, xs, hok, hl, hx, _, hm⟩ := make_ev a0 a1 a2 a3 a4 h0 h1
 obtain ⟨ys, yl, hy, yv⟩ := interval_val ps (okL_facts hok).1 b0 b1 b2 b3
 obtain ⟨zs, zl, hz, zv⟩ := interval_val ps (okL_facts hok).1 c0 c1 c2 c3
 have sx : Small 9 xs := hx
 have sy : Small 9 ys := hy
 have sz : Small 9 zs := hz
 have h8 : ps.length ≤ 4 := (okL_facts hok).1
 unfold schismalaw12_MonzoLaws.f
 obtain ⟨e1, l1, s1⟩ := add_ok hok hl yl sx sy (by omega)
 obtain ⟨e2, l2, s2⟩ := add_ok hok yl hl sy sx (by omega)
 obtain ⟨e3, l3, s3⟩ := add_ok hok yl zl sy sz (by omega)
 obtain ⟨e4, l4, s4⟩ := add_ok hok l1 zl s1 sz (by omega)
 obtain ⟨e5, l5, s5⟩ := add_ok hok hl l3 sx s3 (by omega)
 have fx : Fit ps xs := okL_fit hok hl (fun x m => by have := sx x m; omega)
 have s6 := Small.comb (s := -1) (.inr rfl) sx sx
 have e6 := Ev.eq (fx.sub fx) (s6.farR (by omega))
 have e7 := fx.neg
 have l7 : (xs.map (-1 * ·)).length = ps.length := by rw [List.length_map, hl]
 have s7 : Small 9 (xs.map (-1 * ·)) := by
  intro z hz
  obtain ⟨x, hx, rfl⟩ := List.mem_map.1 hz
  have := sx x hx
  omega
 obtain ⟨e8, l8, s8⟩ := add_ok hok hl l7 sx s7 (by omega)
 rw [comb_self] at e6
 rw [comb_neg] at e8
 have f9 : Fit ps (xs.map fun _ => (0 : Int)) := okL_fit hok (by rw [List.length_map, hl]) (fun x m => by
  obtain ⟨y, _, rfl⟩ := List.mem_map.1 m
  omega)
 have e9 := f9.fraction
 obtain ⟨n1, n2⟩ := numL_zero ps xs
 have d1 : nDigits 1 = 1 := nDigits_small (by decide)
 rw [n1, n2, if_pos (by omega)] at e9
 have l9 : (xs.map fun _ => (0 : Int)).length ≤ 1000 := by rw [List.length_map]; omega
 rw [comb_comm ys xs] at e2
 rw [← comb_assoc xs ys zs] at e5
 refine Ev.bind known_ev (Ev.ite_pos rfl (Ev.bind (Ev.congr hm (Ev.now _)) (Ev.bind (Ev.congr yv (Ev.now _)) (Ev.bind (Ev.congr zv (Ev.now _)) (Ev.bind e1 (Ev.bind e2 (Ev.bind e3 (Ev.bind e4 (Ev.bind e5 (Ev.bind e6 (Ev.bind e7 (Ev.bind e8 (Ev.bind e9 ?_)))))))))))))
 refine Ev.ite_pos rfl (Ev.ite_pos rfl (Ev.ite_pos rfl (Ev.ite_pos rfl (Ev.ite_pos rfl (Ev.ite_pos rfl (Ev.ite_pos rfl (Ev.ite_pos rfl (Ev.ite_pos rfl ?_))))))))
 dsimp only
 refine Ev.bind (same_ev _ _ (by omega) (by omega)) (Ev.ite_pos (by simp) (Ev.bind (same_ev _ _ (by omega) (by omega)) (Ev.ite_pos (by simp) (Ev.bind (same_ev _ _ (by omega) (by omega)) (Ev.ite_pos (by simp) (Ev.val ?_))))))
 rw [← ns1, toList_data]
 rfl
end Go.Proofs.YtccebdpjdpjgnaaGreatDoor.Q
end
section
namespace Go.Proofs.YtccebdpjdpjgnaaGreatDoor.D
open Go.ChangeShapes Go.WideShapes Go.ChangeAt Go.RowKit Go.Proofs.YtccebdpjdpjgnaaGreatDoorW.PrintWords
set_option maxRecDepth 100000
theorem open_l4 {w : World} {base : Nat} {v : Value} (h : Value.okWide Tryz.prog w .any base 48 v) : ∃ b c d e : Int, v = .agg #[.int .i8 b, .int .i8 c, .int .i8 d, .int .i8 e] := by
 obtain ⟨cs, rfl, hs, hall⟩ := open_cells (ts := [47, 47, 47, 47]) (.inr ⟨_, _, Tryz.underlying48⟩) (by kernel_rfl) (by kernel_rfl) h
 obtain ⟨x0, h0, k0⟩ := hall 0 47 rfl
 obtain ⟨x1, h1, k1⟩ := hall 1 47 rfl
 obtain ⟨x2, h2, k2⟩ := hall 2 47 rfl
 obtain ⟨x3, h3, k3⟩ := hall 3 47 rfl
 obtain ⟨a, rfl, _⟩ := cell_int Tryz.underlying47 k0
 obtain ⟨b, rfl, _⟩ := cell_int Tryz.underlying47 k1
 obtain ⟨c, rfl, _⟩ := cell_int Tryz.underlying47 k2
 obtain ⟨d, rfl, _⟩ := cell_int Tryz.underlying47 k3
 refine ⟨a, b, c, d, ?_⟩
 congr 1
 apply Array.ext_getElem?
 intro i
 rcases (show i = 0 ∨ i = 1 ∨ i = 2 ∨ i = 3 ∨ 4 ≤ i by omega) with rfl | rfl | rfl | rfl | hi
 ·exact h0
 ·exact h1
 ·exact h2
 ·exact h3
 ·rw [Array.getElem?_eq_none (by rw [hs]; exact hi), Array.getElem?_eq_none (by exact hi)]
end Go.Proofs.YtccebdpjdpjgnaaGreatDoor.D
end
