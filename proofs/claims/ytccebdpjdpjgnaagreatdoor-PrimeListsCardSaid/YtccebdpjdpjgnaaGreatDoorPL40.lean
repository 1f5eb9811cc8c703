/-
parts of the walks and of the plain laws: QLists Door3
-/
import Derived.Test.YtccebdpjdpjgnaaGreatDoorPL37
import Derived.Test.YtccebdpjdpjgnaaGreatDoorPL39
import Derived.Test.YtccebdpjdpjgnaaGreatDoorPL06
set_option linter.unusedVariables false
set_option linter.unusedSimpArgs false
section
namespace Go.Proofs.YtccebdpjdpjgnaaGreatDoor.Q
open Go.Lib hiding bytesOf bytesOf_length
open Go Go.RowKit Sch Go.Proofs.YtccebdpjdpjgnaaGreatDoor.P Go.Proofs.YtccebdpjdpjgnaaGreatDoorW.PrintWords Go.Proofs.YtccebdpjdpjgnaaGreatDoorW.PrintLast Go.Proofs.YtccebdpjdpjgnaaGreatDoorW.PrintMore
theorem isPrime11_fin : ∀ n : Fin 98, 2 ≤ n.val → schismalaw11_isPrime.f 110 ((n.val : Nat) : Int) = some (isP (n.val : Nat)) := by decide +kernel
theorem isPrime11_ev (x : Int) : Ev (fun k => schismalaw11_isPrime.f k x) (isP x) := by
 by_cases h : 2 ≤ x ∧ x ≤ 97
 ·obtain ⟨n, rfl⟩ := Int.eq_ofNat_of_zero_le (show 0 ≤ x by omega)
  exact Ev.of (fun k => schismalaw11_isPrime.mono _ k) (isPrime11_fin ⟨n, by omega⟩ (by show 2 ≤ n; omega))
 ·have hf : isP x = false := by
   rw [Bool.eq_false_iff]; intro e; exact h (isP_range e)
  rw [hf]
  unfold schismalaw11_isPrime.f
  have hj : Ev (fun k => schismalaw11_isPrime.j0 k x true) false := by
   refine Ev.succ ?_
   simp only [schismalaw11_isPrime.j0]
   exact Ev.ite_pos (by simp) (Ev.val rfl)
  by_cases h2 : x < 2
  ·exact Ev.ite_pos h2 hj
  ·refine Ev.ite_neg h2 ?_
   rw [decide_eq_true (by omega)]
   exact hj
theorem check11_ev (p : List Int) : Ev (fun k => schismalaw11_check.f k p) (primeErr p) := by
 unfold schismalaw11_check.f primeErr
 by_cases h0 : p.length = 0
 ·rw [if_pos h0]; exact Ev.ite_pos (by omega) (Ev.val rfl)
 ·rw [if_neg h0]
  refine Ev.ite_neg (by omega) ?_
  by_cases h6 : p.length > 6
  ·rw [if_pos h6]; exact Ev.ite_pos (by omega) (Ev.val rfl)
  ·rw [if_neg h6]
   refine Ev.ite_neg (by omega) ?_
   have : ∀ (d i : Nat), p.length = i + d → Ev (fun k => schismalaw11_check.l0 k p p (p.length : Int) (i : Int)) (goP (if i = 0 then 0 else p.getD (i - 1) 0) (p.drop i)) := by
    intro d
    induction d with
    | zero =>
     intro i hi
     refine Ev.succ ?_
     simp only [schismalaw11_check.l0]
     rw [List.drop_of_length_le (by omega)]
     exact Ev.ite_neg (by omega) (Ev.val rfl)
    | succ d ih =>
     intro i hi
     refine Ev.succ ?_
     simp only [schismalaw11_check.l0]
     rw [rd_nat, drop_getD p i (by omega), goP]
     refine Ev.ite_pos (by omega) (Ev.ite_pos (by omega) (Ev.ite_pos (by omega) (Ev.bind (isPrime11_ev _) ?_)))
     have hn := ih (i + 1) (by omega)
     rw [if_neg (by omega), Nat.add_sub_cancel] at hn
     have hi1 : ((i + 1 : Nat) : Int) = (i : Int) + 1 := by omega
     rw [hi1] at hn
     rw [w64 (x := (i : Int) + 1) (by omega) (by omega)]
     by_cases hp : isP (p.getD i 0) = true
     ·rw [if_pos hp]
      refine Ev.ite_pos hp ?_
      by_cases hi0 : i = 0
      ·subst hi0
       rw [if_pos rfl, if_neg (by have := isP_range hp; omega)]
       exact Ev.ite_neg (by omega) hn
      ·rw [if_neg hi0]
       refine Ev.ite_pos (by omega) ?_
       have e1 : (i : Int) - 1 = ((i - 1 : Nat) : Int) := by omega
       rw [e1, w64 (by omega) (by omega), rd_nat]
       refine Ev.ite_pos (by omega) (Ev.ite_pos (by omega) ?_)
       by_cases hle : p.getD i 0 ≤ p.getD (i - 1) 0
       ·rw [if_pos hle]; exact Ev.ite_pos hle (Ev.val rfl)
       ·rw [if_neg hle]; exact Ev.ite_neg hle hn
     ·rw [if_neg hp]
      exact Ev.ite_neg hp (Ev.val rfl)
   have h := this p.length 0 (by omega)
   simpa using h
def uptoL (c : Int) : List Int := (il allP).filter fun x => !decide (c < x)
theorem all20 : schismalaw11_all.f 130 20 = some [2, 3, 5, 7, 11, 13, 17, 19] := by decide +kernel
theorem all_fin : ∀ n : Fin 17, 2 ≤ n.val → schismalaw11_all.f 130 ((n.val : Nat) : Int) = some (uptoL (n.val : Nat)) ∧ (uptoL ((n.val : Nat) : Int)).length ≤ 6 := by decide +kernel
theorem upto_low (c : Int) (h : c < 2) : Ev (fun k => prime_UpTo.f k c) ([], 3) := by
 unfold prime_UpTo.f
 exact Ev.ite_pos h (Ev.val rfl)
theorem upto_ev (c : Int) (h : 2 ≤ c) : Ev (fun k => prime_UpTo.f k c) (if (uptoL c).length > 6 then ([], 4) else (uptoL c, 0)) := by
 unfold prime_UpTo.f
 refine Ev.ite_neg (by omega) (Ev.bind every_ev (Ev.ite_neg (by decide) ?_))
 by_cases h6 : (uptoL c).length > 6
 ·rw [if_pos h6]; exact Ev.ite_pos h6 (Ev.val rfl)
 ·rw [if_neg h6]; exact Ev.ite_neg h6 (Ev.val rfl)
theorem upto_many (c : Int) (h : 17 ≤ c) : (uptoL c).length > 6 := by
 have e : il allP = [2, 3, 5, 7, 11, 13, 17] ++ (il allP).drop 7 := rfl
 unfold uptoL
 rw [e, List.filter_append, List.length_append]
 have : List.filter (fun x => !decide (c < x)) ([2, 3, 5, 7, 11, 13, 17] : List Int) = [2, 3, 5, 7, 11, 13, 17] := by
  rw [List.filter_eq_self]
  intro a ha
  simp only [List.mem_cons, List.not_mem_nil, or_false] at ha
  rw [decide_eq_false (by omega)]; rfl
 rw [this]
 simp only [List.length_cons, List.length_nil]
 omega
theorem lists_j3 (a b c : Int) : Ev (fun k => schismalaw11_PrimeLists.j3 k a b c) true := by
 refine Ev.succ ?_
 simp only [schismalaw11_PrimeLists.j3]
 by_cases h2 : c < 2
 ·exact Ev.bind (upto_low c h2) (Ev.ite_pos h2 (Ev.ite_pos rfl (Ev.val rfl)))
 ·by_cases h17 : c ≥ 17
  ·exact Ev.bind (Ev.eq (upto_ev c (by omega)) (if_pos (upto_many c h17))) (Ev.ite_neg h2 (Ev.ite_pos h17 (Ev.ite_pos rfl (Ev.val rfl))))
  ·obtain ⟨n, rfl⟩ := Int.eq_ofNat_of_zero_le (show 0 ≤ c by omega)
   have h1 : schismalaw11_all.f 130 (n : Int) = some (uptoL (n : Int)) := (all_fin ⟨n, by omega⟩ (by show 2 ≤ n; omega)).1
   have h3 : (uptoL (n : Int)).length ≤ 6 := (all_fin ⟨n, by omega⟩ (by show 2 ≤ n; omega)).2
   exact Ev.bind (Ev.eq (upto_ev _ (by omega)) (if_neg (Nat.not_lt.2 h3))) (Ev.ite_neg h2 (Ev.ite_neg h17 (Ev.ite_pos rfl (Ev.bind (Ev.of (fun k => schismalaw11_all.mono _ k) h1) (Ev.bindr (equalP_ev _ _ (Nat.le_trans h3 (by decide))) (by simp))))))
theorem lists_j2 (x5 : List Int) (x6 a b c : Int) (flag : Bool) (h1 : flag = true → x6 = 3 ∧ x5 = []) (h2 : flag = false → x6 = 0 ∧ 1 ≤ b ∧ b ≤ 6 ∧ x5 = (il allP).take b.toNat) : Ev (fun k => schismalaw11_PrimeLists.j2 k x5 x6 flag a b c) true := by
 refine Ev.succ ?_
 simp only [schismalaw11_PrimeLists.j2]
 cases flag with
 | true =>
  obtain ⟨rfl, rfl⟩ := h1 rfl
  exact Ev.ite_pos (by simp) (Ev.ite_pos rfl (Ev.ite_neg (by simp) (lists_j3 a b c)))
 | false =>
  obtain ⟨rfl, b1, b6, rfl⟩ := h2 rfl
  obtain ⟨n, rfl⟩ := Int.eq_ofNat_of_zero_le (show 0 ≤ b by omega)
  refine Ev.ite_neg (by simp) (Ev.ite_pos rfl (Ev.bind (Ev.of (fun k => schismalaw11_all.mono _ k) all20) (Ev.ite_pos (by omega) (Ev.ite_pos (by simp only [List.length_cons, List.length_nil]; omega) ?_))))
  have he : (il allP).take (Int.toNat (n : Int)) = ([2, 3, 5, 7, 11, 13, 17, 19] : List Int).take (Int.toNat (n : Int)) := by
   rw [Int.toNat_natCast]
   rcases (show n = 1 ∨ n = 2 ∨ n = 3 ∨ n = 4 ∨ n = 5 ∨ n = 6 by omega) with rfl | rfl | rfl | rfl | rfl | rfl <;> rfl
  rw [he]
  refine Ev.bind (equalP_ev _ _ (by rw [List.length_take]; simp only [List.length_cons, List.length_nil]; omega)) (Ev.ite_pos (by simp) (lists_j3 a n c))
theorem lists_ev (p : List Int) (a b c : Int) : Ev (fun k => schismalaw11_PrimeLists.f k p a b c) true := by
 unfold schismalaw11_PrimeLists.f
 refine Ev.bind known11_ev (Ev.ite_pos rfl ?_)
 by_cases h9 : (p.length : Int) > 9
 ·rw [decide_eq_true h9]
  refine Ev.succ ?_
  simp only [schismalaw11_PrimeLists.j0]
  exact Ev.ite_pos (by simp) (Ev.bindr known11_ev rfl)
 ·rw [decide_eq_false h9]
  refine Ev.succ ?_
  simp only [schismalaw11_PrimeLists.j0]
  have hj1 : Ev (fun k => schismalaw11_PrimeLists.j1 k false a b c) true := by
   refine Ev.succ ?_
   simp only [schismalaw11_PrimeLists.j1]
   refine Ev.ite_neg (by simp) ?_
   by_cases h1 : b < 1
   ·exact Ev.bind (first_bad b (.inl h1)) (Ev.ite_pos h1 (lists_j2 _ _ a b c true (fun _ => ⟨rfl, rfl⟩) (fun h => by cases h)))
   ·by_cases h6 : b > 6
    ·refine Ev.bind (first_bad b (.inr h6)) (Ev.ite_neg h1 ?_)
     rw [decide_eq_true h6]
     exact lists_j2 _ _ a b c true (fun _ => ⟨rfl, rfl⟩) (fun h => by cases h)
    ·refine Ev.bind (first_ev b (by omega) (by omega)) (Ev.ite_neg h1 ?_)
     rw [decide_eq_false h6]
     exact lists_j2 _ _ a b c false (fun h => by cases h) (fun _ => ⟨rfl, by omega, by omega, rfl⟩)
  refine Ev.ite_neg (by simp) (Ev.bind (isPrime_ev a) (Ev.bind (isPrime11_ev a) (Ev.ite_neg (by simp) (Ev.bind (primeCheck_ev p) (Ev.bind (check11_ev p) ?_)))))
  rw [bne_self_eq_false]
  exact hj1
end Go.Proofs.YtccebdpjdpjgnaaGreatDoor.Q
end
section
namespace Go.Proofs.YtccebdpjdpjgnaaGreatDoor.D
open Go.ChangeShapes Go.WideShapes Go.ChangeAt Go.RowKit Go.Proofs.YtccebdpjdpjgnaaGreatDoorW.PrintWords
set_option maxRecDepth 100000
theorem open_arr3 {w : World} {base : Nat} {v : Value} (h : Value.okWide Tryz.prog w .any base 79 v) : ∃ a b c : Int, v = .agg #[.int .i64 a, .int .i64 b, .int .i64 c] ∧ (-9223372036854775808 ≤ a ∧ a ≤ 9223372036854775807) ∧ (-9223372036854775808 ≤ b ∧ b ≤ 9223372036854775807) ∧ -9223372036854775808 ≤ c ∧ c ≤ 9223372036854775807 := by
 obtain ⟨cs, rfl, hs, hall⟩ := open_cells (ts := [3, 3, 3]) (.inr ⟨_, _, Tryz.underlying79⟩) (by kernel_rfl) (by kernel_rfl) h
 obtain ⟨x0, h0, k0⟩ := hall 0 3 rfl
 obtain ⟨x1, h1, k1⟩ := hall 1 3 rfl
 obtain ⟨x2, h2, k2⟩ := hall 2 3 rfl
 obtain ⟨a, rfl, ha⟩ := cell_int Tryz.underlying3 k0
 obtain ⟨b, rfl, hb⟩ := cell_int Tryz.underlying3 k1
 obtain ⟨c, rfl, hc⟩ := cell_int Tryz.underlying3 k2
 refine ⟨a, b, c, ?_, ⟨ha.1, ha.2⟩, ⟨hb.1, hb.2⟩, hc.1, hc.2⟩
 congr 1
 apply Array.ext_getElem?
 intro i
 rcases (show i = 0 ∨ i = 1 ∨ i = 2 ∨ 3 ≤ i by omega) with rfl | rfl | rfl | hi
 ·exact h0
 ·exact h1
 ·exact h2
 ·rw [Array.getElem?_eq_none (by rw [hs]; exact hi), Array.getElem?_eq_none (by exact hi)]
def L7 : List (String × DataW Unit) := [("math/bits.deBruijn32tab", Rows.laid_math_bits_deBruijn32tab), ("math/bits.deBruijn64tab", Rows.laid_math_bits_deBruijn64tab), ("internal/strconv.uint64pow10", Rows.laid_internal_strconv_uint64pow10), ("unicode/utf8.acceptRanges", Rows.laid_unicode_utf8_acceptRanges), ("strconv.ErrRange", Rows.laid_strconv_ErrRange), ("strconv.ErrSyntax", Rows.laid_strconv_ErrSyntax), ("unicode/utf8.first", Rows.laid_unicode_utf8_first)]
theorem tabW_of_laid7 {W : World} (h : laidMetH Tryz.prog L7 W) (hs : W.ShapedOpen Tryz.prog) : TabW W := by
 rw [MakeChecks.laidMetH_plain _ _ _ (by kernel_rfl)] at h
 obtain ⟨ps, ⟨_, _, _, _, _, _, _, _, _, _, ⟨_, _, _, _, _, _, _, _, _, _, ⟨g2, t2, cs2, f2, p2, q2, hg2, ht2, hv2, hd2, ⟨_, _, _, _, _, _, _, _, _, _, ⟨g4, t4, cs4, f4, p4, q4, hg4, ht4, hv4, hd4, ⟨g5, t5, cs5, f5, p5, q5, hg5, ht5, hv5, hd5, ⟨_, _, _, _, _, _, _, _, _, _, _, _⟩, _⟩, _⟩, _⟩, _⟩, _⟩, _⟩, _, _⟩ := h
 obtain rfl := Option.some.inj (g_pow.symm.trans hg2)
 obtain rfl := Option.some.inj (g_rng.symm.trans hg4)
 obtain rfl := Option.some.inj (g_syn.symm.trans hg5)
 obtain rfl := Option.some.inj (t_pow.symm.trans ht2)
 obtain rfl := Option.some.inj (t_rng.symm.trans ht4)
 obtain rfl := Option.some.inj (t_syn.symm.trans ht5)
 refine ⟨?_, ?_, ?_, ?_⟩
 ·have e : (Rows.laid_internal_strconv_uint64pow10 : DataW Unit) = Lib.tabData .u64 Lib.pow10Tab := by kernel_rfl
  rw [e] at hd2
  unfold Lib.TabIs
  rw [hv2, ← Lib.cells_of_tab Tryz.underlying290 (by rfl) (by kernel_rfl) (by kernel_rfl) hd2]
 ·obtain ⟨_, u, v, e, _⟩ := iface_of_trod Tryz.underlying162 hd5
  exact ⟨u, v, by rw [hv5, arr_eq e]⟩
 ·obtain ⟨_, u, v, e, _⟩ := iface_of_trod Tryz.underlying162 hd4
  exact ⟨u, v, by rw [hv4, arr_eq e]⟩
 ·exact cell_of_shapedOpen_int (k := .i64) (t := 3) (zero := #[.int .i64 0]) hs (of_decide_eq_true (by kernel_rfl)) (by kernel_rfl) rfl (by kernel_rfl) (by kernel_rfl) Tryz.underlying3
end Go.Proofs.YtccebdpjdpjgnaaGreatDoor.D
end
