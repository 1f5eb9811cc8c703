/-
parts of the walks and of the plain laws: QRefuses Door3
-/
import Derived.Test.YtccebdpjdpjgnaaGreatDoorRF35
import Derived.Test.YtccebdpjdpjgnaaGreatDoorRF37
import Derived.Test.YtccebdpjdpjgnaaGreatDoorRF06
set_option linter.unusedVariables false
set_option linter.unusedSimpArgs false
section
namespace Go.Proofs.YtccebdpjdpjgnaaGreatDoor.Q
open Go.Lib hiding bytesOf bytesOf_length
open Go Go.RowKit Sch Go.Proofs.YtccebdpjdpjgnaaGreatDoor.P Go.Proofs.YtccebdpjdpjgnaaGreatDoorW.PrintWords Go.Proofs.YtccebdpjdpjgnaaGreatDoorW.PrintLast Go.Proofs.YtccebdpjdpjgnaaGreatDoorW.PrintMore
theorem none_toList : (⟨#[]⟩ : ByteArray).toList = [] := by rw [toList_data]
def twoErr (p q : List Int) : Int := if primeErr p = 0 then primeErr q else primeErr p
theorem two_any (p q : List Int) : Ev (fun k => prime_two.f k p q) (twoErr p q) := by
 unfold prime_two.f
 refine Ev.bind (primeCheck_ev p) ?_
 by_cases h : primeErr p = 0
 ·exact Ev.eq (Ev.ite_pos h (Ev.bindr (primeCheck_ev q) rfl)) (if_pos h).symm
 ·exact Ev.eq (Ev.ite_neg h (Ev.val rfl)) (if_neg h).symm
theorem refuses_j2 (p q : List Int) : Ev (fun k => schismalaw11_PrimeRefuses.j2 k p q (twoErr p q)) true := by
 refine Ev.succ ?_
 simp only [schismalaw11_PrimeRefuses.j2]
 by_cases h : twoErr p q = 0
 ·exact Ev.ite_pos h (Ev.val rfl)
 ·have hw : Ev (fun k => cprime_Within.f k p q) (false, twoErr p q) := by
   unfold cprime_Within.f
   exact Ev.bind (two_any p q) (Ev.ite_neg h (Ev.val rfl))
  have hj : Ev (fun k => cprime_Join.f k p q) ([], twoErr p q) := by
   unfold cprime_Join.f
   exact Ev.bind (two_any p q) (Ev.ite_neg h (Ev.val rfl))
  have he : Ev (fun k => cprime_Embed.f k p q []) ([], twoErr p q) := by
   unfold cprime_Embed.f
   exact Ev.bind (two_any p q) (Ev.ite_neg h (Ev.val rfl))
  have hr : Ev (fun k => cprime_Restrict.f k p q []) ([], twoErr p q) := by
   unfold cprime_Restrict.f
   exact Ev.bind (two_any p q) (Ev.ite_neg h (Ev.val rfl))
  refine Ev.ite_neg h (Ev.bind hw (Ev.bind hj (Ev.bind he (Ev.bind hr (Ev.ite_pos (by simp) (Ev.ite_pos (by simp) (Ev.ite_pos (by simp) (Ev.ite_pos (by simp) (Ev.ite_neg (by simp) (Ev.val ?_))))))))))
  simp only [List.length_nil]
  rw [w64 (x := ((0 : Nat) : Int) + ((0 : Nat) : Int)) (by decide) (by decide), w64 (by decide) (by decide)]
  rfl
theorem refuses_j1 (p q : List Int) : Ev (fun k => schismalaw11_PrimeRefuses.j1 k p q) true := by
 refine Ev.succ ?_
 simp only [schismalaw11_PrimeRefuses.j1]
 have hj := refuses_j2 p q
 unfold twoErr at hj
 refine Ev.bind (check11_ev p) ?_
 by_cases h : primeErr p = 0
 ·rw [if_pos h] at hj
  exact Ev.ite_pos h (Ev.bind (check11_ev q) hj)
 ·rw [if_neg h] at hj
  exact Ev.ite_neg h hj
theorem refuses_ev (p q : List Int) : Ev (fun k => schismalaw11_PrimeRefuses.f k p q) true := by
 unfold schismalaw11_PrimeRefuses.f
 have hout : Ev (fun k => schismalaw11_PrimeRefuses.j0 k p q true) true := by
  refine Ev.succ ?_
  simp only [schismalaw11_PrimeRefuses.j0]
  exact Ev.ite_pos (by simp) (Ev.bindr known11_ev rfl)
 refine Ev.bind known11_ev (Ev.ite_pos rfl ?_)
 by_cases h1 : (p.length : Int) > 9
 ·exact Ev.ite_pos h1 hout
 ·refine Ev.ite_neg h1 ?_
  by_cases h2 : (q.length : Int) > 9
  ·rw [decide_eq_true h2]; exact hout
  ·rw [decide_eq_false h2]
   refine Ev.succ ?_
   simp only [schismalaw11_PrimeRefuses.j0]
   refine Ev.ite_neg (by simp) (Ev.bind (check11_ev p) ?_)
   by_cases h : primeErr p = 0
   ·exact Ev.ite_pos h (refuses_j1 p q)
   ·have ho : Ev (fun k => cprime_open.f k p (⟨#[49]⟩ : ByteArray) (⟨#[49]⟩ : ByteArray)) (primeErr p) := by
     unfold cprime_open.f
     exact Ev.bind (primeCheck_ev p) (Ev.ite_neg h (Ev.val rfl))
    have hf : Ev (fun k => cprime_Factor.f k p (⟨#[49]⟩ : ByteArray) (⟨#[49]⟩ : ByteArray)) ([], primeErr p) := by
     unfold cprime_Factor.f
     exact Ev.bind ho (Ev.ite_neg h (Ev.val rfl))
    have hv : Ev (fun k => cprime_Value.f k p []) (⟨#[]⟩, ⟨#[]⟩, primeErr p) := by
     unfold cprime_Value.f
     exact Ev.bind (primeCheck_ev p) (Ev.ite_neg h (Ev.val rfl))
    have hs : Ev (fun k => cprime_Smooth.f k p (⟨#[49]⟩ : ByteArray) (⟨#[49]⟩ : ByteArray)) (false, primeErr p) := by
     unfold cprime_Smooth.f
     exact Ev.bind ho (Ev.ite_neg h (Ev.val rfl))
    have ht : Ev (fun k => cprime_Text.f k p) (⟨#[]⟩, primeErr p) := by
     unfold cprime_Text.f
     exact Ev.bind (primeCheck_ev p) (Ev.ite_neg h (Ev.val rfl))
    refine Ev.ite_neg h (Ev.bind hf (Ev.bind hv (Ev.bind hs (Ev.bind ht ?_))))
    simp only [none_toList]
    exact Ev.ite_pos (by simp) (Ev.ite_pos (by simp) (Ev.ite_pos (by simp) (Ev.ite_pos (by simp) (Ev.ite_neg (by simp) (Ev.ite_neg (by simp) (Ev.ite_neg (by simp) (Ev.ite_pos (by simp) (refuses_j1 p q))))))))
end Go.Proofs.YtccebdpjdpjgnaaGreatDoor.Q
end
section
namespace Go.Proofs.YtccebdpjdpjgnaaGreatDoor.D
open Go.ChangeShapes Go.WideShapes Go.ChangeAt Go.RowKit Go.Proofs.YtccebdpjdpjgnaaGreatDoorW.PrintWords
set_option maxRecDepth 100000
def L7 : List (String × DataW Unit) := [("math/bits.deBruijn32tab", Rows.laid_math_bits_deBruijn32tab), ("math/bits.deBruijn64tab", Rows.laid_math_bits_deBruijn64tab), ("internal/strconv.uint64pow10", Rows.laid_internal_strconv_uint64pow10), ("unicode/utf8.acceptRanges", Rows.laid_unicode_utf8_acceptRanges), ("strconv.ErrRange", Rows.laid_strconv_ErrRange), ("strconv.ErrSyntax", Rows.laid_strconv_ErrSyntax), ("unicode/utf8.first", Rows.laid_unicode_utf8_first)]
theorem tabW_of_laid7 {W : World} (h : laidMetH Tryz.prog L7 W) (hs : W.ShapedOpen Tryz.prog) : TabW W := by
 rw [MakeChecks.laidMetH_plain _ _ _ (by kernel_rfl)] at h
 obtain ⟨ps, ⟨_, _, _, _, _, _, _, _, _, _, ⟨_, _, _, _, _, _, _, _, _, _, ⟨g2, t2, cs2, f2, p2, q2, hg2, ht2, hv2, hd2, ⟨_, _, _, _, _, _, _, _, _, _, ⟨g4, t4, cs4, f4, p4, q4, hg4, ht4, hv4, hd4, ⟨g5, t5, cs5, f5, p5, q5, hg5, ht5, hv5, hd5, ⟨_, _, _, _, _, _, _, _, _, _, _, _⟩, _⟩, _⟩, _⟩, _⟩, _⟩, _⟩, _, _⟩ := h
 obtain rfl := Option.some.inj (g_pow.symm.trans hg2)
 obtain rfl := Option.some.inj (g_rng.symm.trans hg4)
 obtain rfl := Option.some.inj (g_syn.symm.trans hg5)
 obtain rfl := Option.some.inj (t_pow.symm.trans ht2)
 obtain rfl := Option.some.inj (t_rng.symm.trans ht4)
 obtain rfl := Option.some.inj (t_syn.symm.trans ht5)
 refine ⟨?_, ?_, ?_, ?_⟩
 ·have e : (Rows.laid_internal_strconv_uint64pow10 : DataW Unit) = Lib.tabData .u64 Lib.pow10Tab := by kernel_rfl
  rw [e] at hd2
  unfold Lib.TabIs
  rw [hv2, ← Lib.cells_of_tab Tryz.underlying290 (by rfl) (by kernel_rfl) (by kernel_rfl) hd2]
 ·obtain ⟨_, u, v, e, _⟩ := iface_of_trod Tryz.underlying162 hd5
  exact ⟨u, v, by rw [hv5, arr_eq e]⟩
 ·obtain ⟨_, u, v, e, _⟩ := iface_of_trod Tryz.underlying162 hd4
  exact ⟨u, v, by rw [hv4, arr_eq e]⟩
 ·exact cell_of_shapedOpen_int (k := .i64) (t := 3) (zero := #[.int .i64 0]) hs (of_decide_eq_true (by kernel_rfl)) (by kernel_rfl) rfl (by kernel_rfl) (by kernel_rfl) Tryz.underlying3
end Go.Proofs.YtccebdpjdpjgnaaGreatDoor.D
end
