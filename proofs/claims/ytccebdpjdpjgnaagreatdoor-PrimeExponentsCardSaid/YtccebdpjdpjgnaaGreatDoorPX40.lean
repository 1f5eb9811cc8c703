/-
parts of the walks and of the plain laws: QExpos Door3
-/
import Derived.Test.YtccebdpjdpjgnaaGreatDoorPX38
import Derived.Test.YtccebdpjdpjgnaaGreatDoorPX39
import Derived.Test.YtccebdpjdpjgnaaGreatDoorPX06
set_option linter.unusedVariables false
set_option linter.unusedSimpArgs false
section
namespace Go.Proofs.YtccebdpjdpjgnaaGreatDoor.Q
open Go.Lib hiding bytesOf bytesOf_length
open Go Go.RowKit Sch Go.Proofs.YtccebdpjdpjgnaaGreatDoor.P Go.Proofs.YtccebdpjdpjgnaaGreatDoorW.PrintWords Go.Proofs.YtccebdpjdpjgnaaGreatDoorW.PrintLast Go.Proofs.YtccebdpjdpjgnaaGreatDoorW.PrintMore
def m50 : List Nat := [2, 3, 5, 7, 11, 13, 17, 19, 23, 29, 31, 37, 41, 43, 47]
theorem all50 : schismalaw11_all.f 130 50 = some (il m50) := by decide +kernel
theorem m50_p : ∀ p ∈ m50, primeErr (il [p]) = 0 ∧ 2 ≤ p ∧ p ≤ 97 := by decide +kernel
theorem far_one (x : Int) : far [x] = decide (x > 1000 ∨ x < -1000) := by simp [far]
theorem fac_one {p : Nat} (hp : p ∈ m50) (x : Int) (h1 : nDigits (numL [p] [x]) ≤ 400) (h2 : nDigits (denL [p] [x]) ≤ 400) : Ev (fun k => prime_Factor.f k [(p : Int)] (ns (numL [p] [x])) (ns (denL [p] [x]))) (if x > 1000 ∨ x < -1000 then ([], 4) else ([x], 0)) := by
 obtain ⟨he, p2, p97⟩ := m50_p p hp
 have ha : Apart [p] := ⟨p2, fun q hq => by simp at hq, trivial⟩
 have hn := numL_pos [p] [x] ha
 have hd := denL_pos [p] [x] ha
 have := pFactor_ev [p] (by simp) (fun q hq => by rw [List.mem_singleton] at hq; subst hq; exact ⟨p2, p97⟩) he _ _ hn hd h1 h2 (fcheck_ok _ _ hd (num_den_cop [p] [x] ha) h1 h2)
 refine Ev.eq this ?_
 rw [ofX_num_den [p] [x] ha rfl]
 unfold ofR
 rw [if_pos ⟨rfl, rfl⟩, far_one]
 by_cases h : x > 1000 ∨ x < -1000
 ·rw [if_pos h, if_pos (decide_eq_true h)]
 ·rw [if_neg h, if_neg (by simpa using h)]
theorem expos_j1 {p : Nat} (hp : p ∈ m50) (e : Nat) (x : Int) (hx : x = e ∨ x = -(e : Int)) (s t : ByteArray) (hs : s = ns (numL [p] [x])) (ht : t = ns (denL [p] [x])) (h1 : nDigits (numL [p] [x]) ≤ 400) (h2 : nDigits (denL [p] [x]) ≤ 400) :
  Ev (fun k => schismalaw11_PrimeExponents.j1 k (p : Int) (e : Int) [x] s t) true := by
 subst hs ht
 refine Ev.succ ?_
 simp only [schismalaw11_PrimeExponents.j1]
 by_cases h : (e : Int) > 1000
 ·exact Ev.bind (Ev.eq (fac_one hp x h1 h2) (if_pos (by omega))) (Ev.ite_pos h (Ev.ite_pos rfl (Ev.val rfl)))
 ·exact Ev.bind (Ev.eq (fac_one hp x h1 h2) (if_neg (by omega))) (Ev.ite_neg h (Ev.ite_pos rfl (Ev.bindr (equalR_ev _ _ (by simp)) (by simp))))
theorem expos_j0 {p : Nat} (hp : p ∈ m50) (e : Nat) (he : e ≤ 1300) (hd : nDigits (p ^ e) ≤ 400) (flag : Bool) : Ev (fun k => schismalaw11_PrimeExponents.j0 k (p : Int) (e : Int) (ns (p ^ e)) [(e : Int)] flag (ns (p ^ e)) (⟨#[49]⟩ : ByteArray)) true := by
 have d1 : nDigits 1 = 1 := nDigits_small (by decide)
 refine Ev.succ ?_
 simp only [schismalaw11_PrimeExponents.j0]
 rw [w64 (by omega) (by omega)]
 cases flag with
 | true =>
  have n1 : numL [p] [-(e : Int)] = 1 := by simp [numL]
  have n2 : denL [p] [-(e : Int)] = p ^ e := by simp [denL]
  exact Ev.ite_pos rfl (expos_j1 hp e (-(e : Int)) (.inr rfl) _ _ (by rw [n1, ns1]) (by rw [n2]) (by rw [n1]; omega) (by rw [n2]; exact hd))
 | false =>
  have n1 : numL [p] [(e : Int)] = p ^ e := by simp [numL]
  have n2 : denL [p] [(e : Int)] = 1 := by simp [denL]
  exact Ev.ite_neg (by simp) (expos_j1 hp e (e : Int) (.inl rfl) _ _ (by rw [n1]) (by rw [n2, ns1]) (by rw [n1]; exact hd) (by rw [n2]; omega))
theorem expos_ev (a b : Int) (c : Bool) (a0 : 0 ≤ a) (a1 : a ≤ 255) (b0 : 0 ≤ b) (b1 : b ≤ 65535) : Ev (fun k => schismalaw11_PrimeExponents.f k a b c) true := by
 unfold schismalaw11_PrimeExponents.f
 obtain ⟨m, rfl⟩ := Int.eq_ofNat_of_zero_le a0
 obtain ⟨n, rfl⟩ := Int.eq_ofNat_of_zero_le b0
 have e1 : Int.tmod (wrap64 (m : Int)) ((il m50).length : Int) = ((m % 15 : Nat) : Int) := by
  rw [w64 (by omega) (by omega), Int.tmod_eq_emod_of_nonneg (by omega)]; rfl
 have hm : n % 1301 < 1301 := Nat.mod_lt _ (by decide)
 have e2 : wrap64 (Int.tmod (n : Int) 1301) = ((n % 1301 : Nat) : Int) := by
  rw [Int.tmod_eq_emod_of_nonneg (by omega), w64 (by omega) (by omega)]; rfl
 have hi : m % 15 < 15 := Nat.mod_lt _ (by decide)
 have hl : (il m50).length = 15 := rfl
 have hp := getDN_mem m50 (m % 15) hi
 rw [e2]
 refine Ev.bind known11_ev (Ev.ite_pos rfl (Ev.bind (Ev.of (fun k => schismalaw11_all.mono _ k) all50) ?_))
 rw [e1, rd_nat, il_getD]
 generalize m50.getD (m % 15) 0 = p at *
 generalize n % 1301 = e at *
 obtain ⟨_, p2, p97⟩ := m50_p p hp
 have hnd : nDigits (p ^ e) ≤ 3000 := by
  have := nd_pow p e
  have : nDigits p ≤ 2 := nd_le (by omega) (by decide)
  have := Nat.mul_le_mul (show e ≤ 1300 by omega) this
  omega
 refine Ev.ite_neg (by omega) (Ev.ite_pos (by omega) (Ev.ite_pos (by omega) (Ev.bind (rpower_ev p e (by omega) p97 (by omega)) (Ev.bind (rfrom_ev _ (by omega)) ?_))))
 rw [ns_size]
 by_cases h : nDigits (p ^ e) ≤ 400
 ·refine Ev.ite_neg (by omega) (Ev.bindc rfl ?_)
  cases c with
  | true => exact Ev.ite_pos rfl (expos_j0 hp e (by omega) h _)
  | false => exact Ev.ite_neg (by simp) (expos_j0 hp e (by omega) h _)
 ·exact Ev.ite_pos (by omega) (Ev.val rfl)
end Go.Proofs.YtccebdpjdpjgnaaGreatDoor.Q
end
section
namespace Go.Proofs.YtccebdpjdpjgnaaGreatDoor.D
open Go.ChangeShapes Go.WideShapes Go.ChangeAt Go.RowKit Go.Proofs.YtccebdpjdpjgnaaGreatDoorW.PrintWords
set_option maxRecDepth 100000
def L7 : List (String × DataW Unit) := [("math/bits.deBruijn32tab", Rows.laid_math_bits_deBruijn32tab), ("math/bits.deBruijn64tab", Rows.laid_math_bits_deBruijn64tab), ("internal/strconv.uint64pow10", Rows.laid_internal_strconv_uint64pow10), ("unicode/utf8.acceptRanges", Rows.laid_unicode_utf8_acceptRanges), ("strconv.ErrRange", Rows.laid_strconv_ErrRange), ("strconv.ErrSyntax", Rows.laid_strconv_ErrSyntax), ("unicode/utf8.first", Rows.laid_unicode_utf8_first)]
theorem tabW_of_laid7 {W : World} (h : laidMetH Tryz.prog L7 W) (hs : W.ShapedOpen Tryz.prog) : TabW W := by
 rw [MakeChecks.laidMetH_plain _ _ _ (by kernel_rfl)] at h
 obtain ⟨ps, ⟨_, _, _, _, _, _, _, _, _, _, ⟨_, _, _, _, _, _, _, _, _, _, ⟨g2, t2, cs2, f2, p2, q2, hg2, ht2, hv2, hd2, ⟨_, _, _, _, _, _, _, _, _, _, ⟨g4, t4, cs4, f4, p4, q4, hg4, ht4, hv4, hd4, ⟨g5, t5, cs5, f5, p5, q5, hg5, ht5, hv5, hd5, ⟨_, _, _, _, _, _, _, _, _, _, _, _⟩, _⟩, _⟩, _⟩, _⟩, _⟩, _⟩, _, _⟩ := h
 obtain rfl := Option.some.inj (g_pow.symm.trans hg2)
 obtain rfl := Option.some.inj (g_rng.symm.trans hg4)
 obtain rfl := Option.some.inj (g_syn.symm.trans hg5)
 obtain rfl := Option.some.inj (t_pow.symm.trans ht2)
 obtain rfl := Option.some.inj (t_rng.symm.trans ht4)
 obtain rfl := Option.some.inj (t_syn.symm.trans ht5)
 refine ⟨?_, ?_, ?_, ?_⟩
 ·have e : (Rows.laid_internal_strconv_uint64pow10 : DataW Unit) = Lib.tabData .u64 Lib.pow10Tab := by kernel_rfl
  rw [e] at hd2
  unfold Lib.TabIs
  rw [hv2, ← Lib.cells_of_tab Tryz.underlying290 (by rfl) (by kernel_rfl) (by kernel_rfl) hd2]
 ·obtain ⟨_, u, v, e, _⟩ := iface_of_trod Tryz.underlying162 hd5
  exact ⟨u, v, by rw [hv5, arr_eq e]⟩
 ·obtain ⟨_, u, v, e, _⟩ := iface_of_trod Tryz.underlying162 hd4
  exact ⟨u, v, by rw [hv4, arr_eq e]⟩
 ·exact cell_of_shapedOpen_int (k := .i64) (t := 3) (zero := #[.int .i64 0]) hs (of_decide_eq_true (by kernel_rfl)) (by kernel_rfl) rfl (by kernel_rfl) (by kernel_rfl) Tryz.underlying3
end Go.Proofs.YtccebdpjdpjgnaaGreatDoor.D
end
