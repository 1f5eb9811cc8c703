/-
parts of the walks and of the plain laws: QValues Door3
-/
import Derived.Test.YtccebdpjdpjgnaaGreatDoorPV38
import Derived.Test.YtccebdpjdpjgnaaGreatDoorPV40
import Derived.Test.YtccebdpjdpjgnaaGreatDoorPV43
import Derived.Test.YtccebdpjdpjgnaaGreatDoorPV06
set_option linter.unusedVariables false
set_option linter.unusedSimpArgs false
section
namespace Go.Proofs.YtccebdpjdpjgnaaGreatDoor.Q
open Go.Lib hiding bytesOf bytesOf_length
open Go Go.RowKit Sch Go.Proofs.YtccebdpjdpjgnaaGreatDoor.P Go.Proofs.YtccebdpjdpjgnaaGreatDoorW.PrintWords Go.Proofs.YtccebdpjdpjgnaaGreatDoorW.PrintLast Go.Proofs.YtccebdpjdpjgnaaGreatDoorW.PrintMore
theorem pc_len_of {n b : Nat} (h : nDigits n ≤ b) : (pc n).length ≤ b := Nat.le_trans pc_len_nd h
theorem rvalue_loop (ps : List Nat) (xs : List Int) (hl : xs.length = ps.length) (hps : ps.length ≤ 20) (hr : ∀ p ∈ ps, 2 ≤ p ∧ p ≤ 97) (hx : ∀ x ∈ xs, -1000 ≤ x ∧ x ≤ 1000) :
  ∀ (c i A B : Nat), ps.length = i + c → nDigits A ≤ 3000 * (i + 1) → nDigits B ≤ 3000 * (i + 1) →
   Ev (fun k => schismalaw11_value.l0 k (il ps) xs (xs.length : Int) (i : Int) false (pc A) false (pc B)) (ns (A * numL (ps.drop i) (xs.drop i)), ns (B * denL (ps.drop i) (xs.drop i))) := by
 intro c
 induction c with
 | zero =>
  intro i A B hi hA hB
  refine Ev.succ ?_
  simp only [schismalaw11_value.l0]
  rw [List.drop_of_length_le (by omega), List.drop_of_length_le (by omega)]
  simp only [numL, denL, Nat.mul_one]
  exact Ev.ite_neg (by omega) (Ev.bind (rfrom_ev A (by omega)) (Ev.bindr (rfrom_ev B (by omega)) rfl))
 | succ c ih =>
  intro i A B hi hA hB
  have hlt : i < ps.length := by omega
  obtain ⟨p2, p97⟩ := hr _ (getDN_mem ps i hlt)
  obtain ⟨x0, x1⟩ := hx _ (getDI_mem xs i (by omega))
  refine Ev.succ ?_
  simp only [schismalaw11_value.l0, il_length]
  rw [rd_nat, rd_nat, il_getD, drop_getDN ps i hlt, drop_getD xs i (by omega), numL, denL]
  generalize ps.getD i 0 = p at *
  generalize xs.getD i 0 = x at *
  rw [w64 (x := (i : Int) + 1) (by omega) (by omega), w64 (x := -x) (by omega) (by omega)]
  have hpd := nd_pow2 p97 (show x.natAbs ≤ 1000 by omega)
  refine Ev.ite_pos (by omega) (Ev.ite_pos (by omega) (Ev.ite_pos (by omega) ?_))
  by_cases hx0 : x > 0
  ·obtain ⟨e, rfl⟩ := Int.eq_ofNat_of_zero_le (show 0 ≤ x by omega)
   rw [Int.natAbs_natCast] at hpd
   have hm := nd_mul A (p ^ e)
   refine Ev.ite_pos hx0 (Ev.ite_pos (by omega) (Ev.bind (rpower_ev p e (by omega) p97 (by omega)) (Ev.bind (rmul_pc A (p ^ e) (Nat.le_trans (pc_len_of hA) (by omega)) (Nat.le_trans (pc_len_of hpd) (by omega))) ?_)))
   have := ih (i + 1) (A * p ^ e) B (by omega) (by omega) (by omega)
   refine Ev.eq this ?_
   rw [Int.toNat_natCast, show (-(e : Int)).toNat = 0 by omega, Nat.pow_zero, Nat.one_mul, Nat.mul_assoc]
  ·obtain ⟨e, he⟩ := Int.eq_ofNat_of_zero_le (show 0 ≤ -x by omega)
   rw [show x.natAbs = e by omega] at hpd
   rw [he]
   have hm := nd_mul B (p ^ e)
   refine Ev.ite_neg hx0 (Ev.ite_pos (by omega) (Ev.bind (rpower_ev p e (by omega) p97 (by omega)) (Ev.bind (rmul_pc B (p ^ e) (Nat.le_trans (pc_len_of hB) (by omega)) (Nat.le_trans (pc_len_of hpd) (by omega))) ?_)))
   have := ih (i + 1) A (B * p ^ e) (by omega) (by omega) (by omega)
   refine Ev.eq this ?_
   rw [Int.toNat_natCast, show x.toNat = 0 by omega, Nat.pow_zero, Nat.one_mul, Nat.mul_assoc]
theorem Fit.rvalue {ps : List Nat} {xs : List Int} (h : Fit ps xs) : Ev (fun k => schismalaw11_value.f k (il ps) xs) (ns (numL ps xs), ns (denL ps xs)) := by
 unfold schismalaw11_value.f
 have d1 : nDigits 1 = 1 := nDigits_small (by decide)
 have h1 : Ev (fun k => schismaref03_Of.f k 1) (false, pc 1) := rof_ev 1 (by omega)
 refine Ev.bind h1 (Ev.bind h1 ?_)
 have := rvalue_loop ps xs h.len (by have := h.few; omega) h.rng h.near ps.length 0 1 1 (by omega) (by omega) (by omega)
 rw [List.drop_zero, List.drop_zero, Nat.one_mul, Nat.one_mul] at this
 exact this
theorem Fit.popen {ps : List Nat} {xs : List Int} (h : Fit ps xs) (h1 : nDigits (numL ps xs) ≤ 400) (h2 : nDigits (denL ps xs) ≤ 400) : Ev (fun k => prime_open.f k (il ps) (ns (numL ps xs)) (ns (denL ps xs))) 0 := by
 unfold prime_open.f
 have hd := denL_pos ps xs h.apart
 exact Ev.bind (primeCheck_ev _) (Ev.ite_pos h.err (Ev.bindr (fcheck_ok _ _ hd (num_den_cop ps xs h.apart) h1 h2) rfl))
theorem Fit.psmooth {ps : List Nat} {xs : List Int} (h : Fit ps xs) (h1 : nDigits (numL ps xs) ≤ 400) (h2 : nDigits (denL ps xs) ≤ 400) : Ev (fun k => prime_Smooth.f k (il ps) (ns (numL ps xs)) (ns (denL ps xs))) (true, 0) := by
 unfold prime_Smooth.f
 have hn := numL_pos ps xs h.apart
 have hd := denL_pos ps xs h.apart
 have := pfactor_ev ps (by have := h.few; omega) h.rng _ _ hn hd (by omega) (by omega)
 rw [ofX_num_den ps xs h.apart h.len] at this
 exact Ev.bind (h.popen h1 h2) (Ev.ite_pos rfl (Ev.bindr this rfl))
theorem empty_toList : (⟨#[]⟩ : ByteArray).toList = [] := by rw [toList_data]
theorem value_bad {ps : List Nat} (hp : Lst ps) {x : List Int} (h : chk (il ps) x ≠ 0) : Ev (fun k => prime_Value.f k (il ps) x) (⟨#[]⟩, ⟨#[]⟩, chk (il ps) x) := by
 unfold prime_Value.f
 exact Ev.bind (primeCheck_ev _) (Ev.ite_pos hp.err (Ev.bindc (fits_val _ _) (Ev.ite_neg h (Ev.val rfl))))
theorem values_long (x : List Int) (ps : List Int) (s t : ByteArray) : Ev (fun k => schismalaw11_PrimeValues.j1 k x ps 4 true (⟨#[]⟩ : ByteArray) (⟨#[]⟩ : ByteArray) s t) true := by
 refine Ev.succ ?_
 simp only [schismalaw11_PrimeValues.j1, empty_toList]
 exact Ev.ite_pos (by simp) (Ev.ite_pos (by simp) (Ev.val rfl))
theorem values_ev (a b : Int) (x : List Int) : Ev (fun k => schismalaw11_PrimeValues.f k a b x) true := by
 unfold schismalaw11_PrimeValues.f
 refine Ev.bind known11_ev (Ev.ite_pos rfl ?_)
 by_cases h8 : (x.length : Int) > 8
 ·rw [decide_eq_true h8]
  refine Ev.succ ?_
  simp only [schismalaw11_PrimeValues.j0]
  exact Ev.ite_pos (by simp) (Ev.bindr known11_ev rfl)
 ·rw [decide_eq_false h8]
  refine Ev.succ ?_
  simp only [schismalaw11_PrimeValues.j0]
  obtain ⟨ps, hp, hep⟩ := make11_ev a
  refine Ev.ite_neg (by simp) (Ev.bind hep ?_)
  by_cases hc : chk (il ps) x = 0
  ·obtain ⟨hlen, hfar⟩ := chk_zero hc
   have f := hp.fit (by rw [hlen, il_length]) (near_of hfar)
   by_cases h1 : nDigits (numL ps x) ≤ 400
   ·by_cases h2 : nDigits (denL ps x) ≤ 400
    ·refine Ev.bind (Ev.eq f.pvalue (if_pos ⟨h1, h2⟩)) (Ev.bindc (row_val _ _) (Ev.ite_pos hc (Ev.bind f.rvalue ?_)))
     rw [ns_size, ns_size]
     refine Ev.ite_neg (by omega) ?_
     rw [decide_eq_false (by omega)]
     refine Ev.succ ?_
     simp only [schismalaw11_PrimeValues.j1]
     exact Ev.ite_neg (by simp) (Ev.bind (f.pfactor h1 h2) (Ev.bind (f.psmooth h1 h2) (Ev.ite_pos (by simp) (Ev.ite_pos (by simp) (Ev.ite_pos (by simp) (Ev.bind (equalR_ev x x (by omega)) (Ev.ite_pos (by simp) (Ev.ite_pos (by simp) (Ev.val rfl)))))))))
    ·refine Ev.bind (Ev.eq f.pvalue (if_neg (fun e => h2 e.2))) (Ev.bindc (row_val _ _) (Ev.ite_pos hc (Ev.bind f.rvalue ?_)))
     rw [ns_size, ns_size]
     refine Ev.ite_neg (by omega) ?_
     rw [decide_eq_true (by omega)]
     exact values_long _ _ _ _
   ·refine Ev.bind (Ev.eq f.pvalue (if_neg (fun e => h1 e.1))) (Ev.bindc (row_val _ _) (Ev.ite_pos hc (Ev.bind f.rvalue ?_)))
    rw [ns_size, ns_size]
    exact Ev.ite_pos (by omega) (values_long _ _ _ _)
  ·refine Ev.bind (value_bad hp hc) (Ev.bindc (row_val _ _) (Ev.ite_neg hc (Ev.ite_pos rfl (Ev.val ?_))))
   simp only [empty_toList]
   rfl
end Go.Proofs.YtccebdpjdpjgnaaGreatDoor.Q
end
section
namespace Go.Proofs.YtccebdpjdpjgnaaGreatDoor.D
open Go.ChangeShapes Go.WideShapes Go.ChangeAt Go.RowKit Go.Proofs.YtccebdpjdpjgnaaGreatDoorW.PrintWords
set_option maxRecDepth 100000
theorem open_lists {w : World} {base : Nat} {v : Value} (h : Value.okWide Tryz.prog w .any base 88 v) : ∃ a b : Int, v = .agg #[.int .u16 a, .int .u16 b] ∧ (0 ≤ a ∧ a ≤ 65535) ∧ 0 ≤ b ∧ b ≤ 65535 := by
 obtain ⟨cs, rfl, hs, hall⟩ := open_cells (ts := [86, 86]) (.inl ⟨_, Tryz.underlying88⟩) (by kernel_rfl) (by kernel_rfl) h
 obtain ⟨x0, h0, k0⟩ := hall 0 86 rfl
 obtain ⟨x1, h1, k1⟩ := hall 1 86 rfl
 obtain ⟨a, rfl, ha⟩ := cell_int Tryz.underlying86 k0
 obtain ⟨b, rfl, hb⟩ := cell_int Tryz.underlying86 k1
 refine ⟨a, b, ?_, ⟨ha.1, ha.2⟩, hb.1, hb.2⟩
 congr 1
 apply Array.ext_getElem?
 intro i
 rcases (show i = 0 ∨ i = 1 ∨ 2 ≤ i by omega) with rfl | rfl | hi
 ·exact h0
 ·exact h1
 ·rw [Array.getElem?_eq_none (by rw [hs]; exact hi), Array.getElem?_eq_none (by exact hi)]
def L7 : List (String × DataW Unit) := [("math/bits.deBruijn32tab", Rows.laid_math_bits_deBruijn32tab), ("math/bits.deBruijn64tab", Rows.laid_math_bits_deBruijn64tab), ("internal/strconv.uint64pow10", Rows.laid_internal_strconv_uint64pow10), ("unicode/utf8.acceptRanges", Rows.laid_unicode_utf8_acceptRanges), ("strconv.ErrRange", Rows.laid_strconv_ErrRange), ("strconv.ErrSyntax", Rows.laid_strconv_ErrSyntax), ("unicode/utf8.first", Rows.laid_unicode_utf8_first)]
theorem tabW_of_laid7 {W : World} (h : laidMetH Tryz.prog L7 W) (hs : W.ShapedOpen Tryz.prog) : TabW W := by
 rw [MakeChecks.laidMetH_plain _ _ _ (by kernel_rfl)] at h
 obtain ⟨ps, ⟨_, _, _, _, _, _, _, _, _, _, ⟨_, _, _, _, _, _, _, _, _, _, ⟨g2, t2, cs2, f2, p2, q2, hg2, ht2, hv2, hd2, ⟨_, _, _, _, _, _, _, _, _, _, ⟨g4, t4, cs4, f4, p4, q4, hg4, ht4, hv4, hd4, ⟨g5, t5, cs5, f5, p5, q5, hg5, ht5, hv5, hd5, ⟨_, _, _, _, _, _, _, _, _, _, _, _⟩, _⟩, _⟩, _⟩, _⟩, _⟩, _⟩, _, _⟩ := h
 obtain rfl := Option.some.inj (g_pow.symm.trans hg2)
 obtain rfl := Option.some.inj (g_rng.symm.trans hg4)
 obtain rfl := Option.some.inj (g_syn.symm.trans hg5)
 obtain rfl := Option.some.inj (t_pow.symm.trans ht2)
 obtain rfl := Option.some.inj (t_rng.symm.trans ht4)
 obtain rfl := Option.some.inj (t_syn.symm.trans ht5)
 refine ⟨?_, ?_, ?_, ?_⟩
 ·have e : (Rows.laid_internal_strconv_uint64pow10 : DataW Unit) = Lib.tabData .u64 Lib.pow10Tab := by kernel_rfl
  rw [e] at hd2
  unfold Lib.TabIs
  rw [hv2, ← Lib.cells_of_tab Tryz.underlying290 (by rfl) (by kernel_rfl) (by kernel_rfl) hd2]
 ·obtain ⟨_, u, v, e, _⟩ := iface_of_trod Tryz.underlying162 hd5
  exact ⟨u, v, by rw [hv5, arr_eq e]⟩
 ·obtain ⟨_, u, v, e, _⟩ := iface_of_trod Tryz.underlying162 hd4
  exact ⟨u, v, by rw [hv4, arr_eq e]⟩
 ·exact cell_of_shapedOpen_int (k := .i64) (t := 3) (zero := #[.int .i64 0]) hs (of_decide_eq_true (by kernel_rfl)) (by kernel_rfl) rfl (by kernel_rfl) (by kernel_rfl) Tryz.underlying3
end Go.Proofs.YtccebdpjdpjgnaaGreatDoor.D
end
