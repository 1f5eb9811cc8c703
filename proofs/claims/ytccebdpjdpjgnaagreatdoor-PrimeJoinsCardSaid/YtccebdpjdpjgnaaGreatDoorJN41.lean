/-
parts of the walks and of the plain laws: QJoins Door3
-/
import Derived.Test.YtccebdpjdpjgnaaGreatDoorJN37
import Derived.Test.YtccebdpjdpjgnaaGreatDoorJN40
import Derived.Test.YtccebdpjdpjgnaaGreatDoorJN06
set_option linter.unusedVariables false
set_option linter.unusedSimpArgs false
section
namespace Go.Proofs.YtccebdpjdpjgnaaGreatDoor.Q
open Go.Lib hiding bytesOf bytesOf_length
open Go Go.RowKit Sch Go.Proofs.YtccebdpjdpjgnaaGreatDoor.P Go.Proofs.YtccebdpjdpjgnaaGreatDoorW.PrintWords Go.Proofs.YtccebdpjdpjgnaaGreatDoorW.PrintLast Go.Proofs.YtccebdpjdpjgnaaGreatDoorW.PrintMore
theorem concat_ev (p q : List Int) (hp : 1 ≤ p.length) (hp2 : p.length ≤ 100) (hq : q.length ≤ 100) : Ev (fun k => api_Primes_int_89.f k ([p, q] : List (List Int))) (p ++ q) := by
 unfold api_Primes_int_89.f
 have e0 : rd_L2 [p, q] 0 = p := rfl
 have e1 : rd_L2 [p, q] 1 = q := rfl
 have hl : (([p, q] : List (List Int)).length : Int) = 2 := rfl
 have w1 : wrap64 (0 + 1) = 1 := w64 (by decide) (by decide)
 have w2 : wrap64 (1 + 1) = 2 := w64 (by decide) (by decide)
 have wp : wrap64 (0 + (p.length : Int)) = (p.length : Int) := by rw [Int.zero_add]; exact w64 (by omega) (by omega)
 have wq : wrap64 ((p.length : Int) + (q.length : Int)) = (p.length : Int) + (q.length : Int) := w64 (by omega) (by omega)
 have g : api_Primes_int_149.f ([] : List Int) ((p.length : Int) + (q.length : Int)) = some [] := if_pos ⟨rfl, by omega, by omega⟩
 have hl1 : Ev (fun k => api_Primes_int_89.l1 k ([] : List Int) [p, q] 2 0) (p ++ q) := by
  refine Ev.succ ?_
  unfold api_Primes_int_89.l1
  rw [hl, e0, w1]
  refine Ev.ite_pos (by decide) (Ev.ite_pos (by decide) (Ev.ite_pos (by decide) (Ev.ite_pos (by rw [List.length_nil]; omega) (Ev.succ ?_))))
  unfold api_Primes_int_89.l1
  rw [hl, e1, w2]
  refine Ev.ite_pos (by decide) (Ev.ite_pos (by decide) (Ev.ite_pos (by decide) (Ev.ite_pos (by rw [List.nil_append]; omega) (Ev.succ ?_))))
  unfold api_Primes_int_89.l1
  exact Ev.ite_neg (by decide) (Ev.val (by rw [List.nil_append]))
 rw [hl]
 refine Ev.succ ?_
 unfold api_Primes_int_89.l0
 rw [hl, e0, w1, wp]
 refine Ev.ite_pos (by decide) (Ev.ite_pos (by decide) (Ev.ite_pos (by decide) (Ev.ite_neg (by omega) (Ev.succ ?_))))
 unfold api_Primes_int_89.l0
 rw [hl, e1, w2, wq]
 refine Ev.ite_pos (by decide) (Ev.ite_pos (by decide) (Ev.ite_pos (by decide) (Ev.ite_neg (by omega) (Ev.succ ?_))))
 unfold api_Primes_int_89.l0
 rw [hl]
 exact Ev.ite_neg (by decide) (Ev.bind (Ev.val g) hl1)
theorem sort_val (l : List Int) (h : 0 < l.length) (h2 : l.length < 1000) : api_Primes_int_90.f l = some (sortL l) := if_pos ⟨h, h2⟩
theorem compact_val (l : List Int) (h : 0 < l.length) : api_Primes_int_91.f (sortL l) = some (Lib.compact (sortL l)) := if_pos (by rw [sortL_length]; exact h)
theorem both_eq (p q : List Int) : Lib.compact (sortL (p ++ q)) = both p q := rfl
theorem Lst.ilt {ps : List Nat} (h : Lst ps) : (il ps).Pairwise (· < ·) := by
 unfold il
 rw [List.pairwise_map]
 exact h.lt.imp (fun h => by omega)
theorem join_ev {ps qs : List Nat} (hp : Lst ps) (hq : Lst qs) : Ev (fun k => prime_Join.f k (il ps) (il qs)) (if ((both (il ps) (il qs)).length : Int) > 6 then ([], 4) else (both (il ps) (il qs), 0)) := by
 have h1 := hp.pos
 have h2 := hp.few
 have h3 := hq.few
 have hl : (il ps ++ il qs).length = ps.length + qs.length := by rw [List.length_append, il_length, il_length]
 unfold prime_Join.f
 refine Ev.bind (two_ev hp hq) (Ev.ite_pos rfl (Ev.bind (concat_ev _ _ (by rw [il_length]; omega) (by rw [il_length]; omega) (by rw [il_length]; omega)) (Ev.bind (Ev.val (sort_val _ (by omega) (by omega))) (Ev.bind (Ev.val (compact_val _ (by omega))) ?_))))
 rw [both_eq]
 by_cases h6 : ((both (il ps) (il qs)).length : Int) > 6
 ·exact Ev.ite_pos h6 (Ev.val (by rw [if_pos h6]))
 ·exact Ev.ite_neg h6 (Ev.val (by rw [if_neg h6]))
theorem within_ev {ps qs : List Nat} (hp : Lst ps) (hq : Lst qs) : Ev (fun k => prime_Within.f k (il ps) (il qs)) (!((il ps).any fun n => !((il qs).contains n)), 0) := by
 unfold prime_Within.f
 exact Ev.bind (two_ev hp hq) (Ev.ite_pos rfl (Ev.val rfl))
theorem within_flag {ps qs : List Nat} (hq : Lst qs) : ((!((il ps).any fun n => !((il qs).contains n))) != (((both (il ps) (il qs)).length : Int) == ((il qs).length : Int))) = false := by
 have hb := both_within (il ps) (il qs) hq.ilt
 by_cases hw : ∀ x ∈ il ps, x ∈ il qs
 ·have h1 : ((il ps).any fun n => !((il qs).contains n)) = false := by
   rw [List.any_eq_false]
   intro x hx
   have := hw x hx
   simp [this]
  have h2 : (((both (il ps) (il qs)).length : Int) == ((il qs).length : Int)) = true := by
   rw [beq_iff_eq, hb.2 hw]
  rw [h1, h2]; rfl
 ·have h1 : ((il ps).any fun n => !((il qs).contains n)) = true := by
   refine (Bool.eq_false_or_eq_true _).resolve_right fun h => ?_
   rw [List.any_eq_false] at h
   refine hw fun x hx => ?_
   have := h x hx
   simpa using this
  have h2 : (((both (il ps) (il qs)).length : Int) == ((il qs).length : Int)) = false := by
   rw [beq_eq_false_iff_ne]
   intro e
   exact hw (hb.1 (by omega))
  rw [h1, h2]; rfl
theorem joins_ev (a b n : Int) : Ev (fun k => schismalaw11_PrimeJoins.f k a b n) true := by
 unfold schismalaw11_PrimeJoins.f
 obtain ⟨ps, hp, hep⟩ := make11_ev a
 obtain ⟨qs, hq, heq⟩ := make11_ev b
 have h1 := hp.pos
 have h2 := hp.few
 have h3 := hq.few
 have hl : (il ps ++ il qs).length = ps.length + qs.length := by rw [List.length_append, il_length, il_length]
 refine Ev.bind known11_ev (Ev.ite_pos rfl (Ev.bind hep (Ev.bind heq ?_)))
 obtain ⟨t, ht⟩ : ∃ t, Ev (fun k => api_Primes_int_70.f k (il ps) n) t := by
  rcases index_ev (il ps) n (by rw [il_length]; omega) with ⟨_, j, _, _, h⟩ | ⟨_, h⟩
  ·exact ⟨_, h⟩
  ·exact ⟨_, h⟩
 have hi : Ev (fun k => prime_Index.f k (il ps) n) (mx t 0, decide (t ≥ 0)) := by
  unfold prime_Index.f
  exact Ev.bindr ht rfl
 refine Ev.bind hi (Ev.bind ht (Ev.bind (within_ev hp hq) (Ev.bind (join_ev hp hq) (Ev.bind (concat_ev _ _ (by rw [il_length]; omega) (by rw [il_length]; omega) (by rw [il_length]; omega)) (Ev.bind (Ev.val (sort_val _ (by omega) (by omega))) (Ev.bind (Ev.val (compact_val _ (by omega))) ?_))))))
 rw [both_eq]
 refine Ev.ite_neg (by simp) (Ev.ite_pos rfl (Ev.ite_pos rfl ?_))
 dsimp only
 rw [within_flag hq]
 refine Ev.succ ?_
 simp only [schismalaw11_PrimeJoins.j0]
 refine Ev.ite_neg (by simp) ?_
 by_cases h6 : ((both (il ps) (il qs)).length : Int) > 6
 ·rw [if_pos h6]
  exact Ev.ite_pos h6 (Ev.ite_pos rfl (Ev.val (by simp)))
 ·rw [if_neg h6]
  refine Ev.ite_neg h6 (Ev.ite_pos rfl (Ev.bindr (equalP_ev _ _ (by
   have := Lib.compact_length_le (sortL (il ps ++ il qs))
   rw [sortL_length] at this
   unfold both
   show (Lib.compact (sortL (il ps ++ il qs))).length ≤ 1000
   omega)) (by simp)))
end Go.Proofs.YtccebdpjdpjgnaaGreatDoor.Q
end
section
namespace Go.Proofs.YtccebdpjdpjgnaaGreatDoor.D
open Go.ChangeShapes Go.WideShapes Go.ChangeAt Go.RowKit Go.Proofs.YtccebdpjdpjgnaaGreatDoorW.PrintWords
set_option maxRecDepth 100000
theorem open_lists {w : World} {base : Nat} {v : Value} (h : Value.okWide Tryz.prog w .any base 88 v) : ∃ a b : Int, v = .agg #[.int .u16 a, .int .u16 b] ∧ (0 ≤ a ∧ a ≤ 65535) ∧ 0 ≤ b ∧ b ≤ 65535 := by
 obtain ⟨cs, rfl, hs, hall⟩ := open_cells (ts := [86, 86]) (.inl ⟨_, Tryz.underlying88⟩) (by kernel_rfl) (by kernel_rfl) h
 obtain ⟨x0, h0, k0⟩ := hall 0 86 rfl
 obtain ⟨x1, h1, k1⟩ := hall 1 86 rfl
 obtain ⟨a, rfl, ha⟩ := cell_int Tryz.underlying86 k0
 obtain ⟨b, rfl, hb⟩ := cell_int Tryz.underlying86 k1
 refine ⟨a, b, ?_, ⟨ha.1, ha.2⟩, hb.1, hb.2⟩
 congr 1
 apply Array.ext_getElem?
 intro i
 rcases (show i = 0 ∨ i = 1 ∨ 2 ≤ i by omega) with rfl | rfl | hi
 ·exact h0
 ·exact h1
 ·rw [Array.getElem?_eq_none (by rw [hs]; exact hi), Array.getElem?_eq_none (by exact hi)]
def L7 : List (String × DataW Unit) := [("math/bits.deBruijn32tab", Rows.laid_math_bits_deBruijn32tab), ("math/bits.deBruijn64tab", Rows.laid_math_bits_deBruijn64tab), ("internal/strconv.uint64pow10", Rows.laid_internal_strconv_uint64pow10), ("unicode/utf8.acceptRanges", Rows.laid_unicode_utf8_acceptRanges), ("strconv.ErrRange", Rows.laid_strconv_ErrRange), ("strconv.ErrSyntax", Rows.laid_strconv_ErrSyntax), ("unicode/utf8.first", Rows.laid_unicode_utf8_first)]
theorem tabW_of_laid7 {W : World} (h : laidMetH Tryz.prog L7 W) (hs : W.ShapedOpen Tryz.prog) : TabW W := by
 rw [MakeChecks.laidMetH_plain _ _ _ (by kernel_rfl)] at h
 obtain ⟨ps, ⟨_, _, _, _, _, _, _, _, _, _, ⟨_, _, _, _, _, _, _, _, _, _, ⟨g2, t2, cs2, f2, p2, q2, hg2, ht2, hv2, hd2, ⟨_, _, _, _, _, _, _, _, _, _, ⟨g4, t4, cs4, f4, p4, q4, hg4, ht4, hv4, hd4, ⟨g5, t5, cs5, f5, p5, q5, hg5, ht5, hv5, hd5, ⟨_, _, _, _, _, _, _, _, _, _, _, _⟩, _⟩, _⟩, _⟩, _⟩, _⟩, _⟩, _, _⟩ := h
 obtain rfl := Option.some.inj (g_pow.symm.trans hg2)
 obtain rfl := Option.some.inj (g_rng.symm.trans hg4)
 obtain rfl := Option.some.inj (g_syn.symm.trans hg5)
 obtain rfl := Option.some.inj (t_pow.symm.trans ht2)
 obtain rfl := Option.some.inj (t_rng.symm.trans ht4)
 obtain rfl := Option.some.inj (t_syn.symm.trans ht5)
 refine ⟨?_, ?_, ?_, ?_⟩
 ·have e : (Rows.laid_internal_strconv_uint64pow10 : DataW Unit) = Lib.tabData .u64 Lib.pow10Tab := by kernel_rfl
  rw [e] at hd2
  unfold Lib.TabIs
  rw [hv2, ← Lib.cells_of_tab Tryz.underlying290 (by rfl) (by kernel_rfl) (by kernel_rfl) hd2]
 ·obtain ⟨_, u, v, e, _⟩ := iface_of_trod Tryz.underlying162 hd5
  exact ⟨u, v, by rw [hv5, arr_eq e]⟩
 ·obtain ⟨_, u, v, e, _⟩ := iface_of_trod Tryz.underlying162 hd4
  exact ⟨u, v, by rw [hv4, arr_eq e]⟩
 ·exact cell_of_shapedOpen_int (k := .i64) (t := 3) (zero := #[.int .i64 0]) hs (of_decide_eq_true (by kernel_rfl)) (by kernel_rfl) rfl (by kernel_rfl) (by kernel_rfl) Tryz.underlying3
end Go.Proofs.YtccebdpjdpjgnaaGreatDoor.D
end
