/-
Plain laws: the functions of decimal on numerals.
-/
import Derived.Lib.AtoiAllCases
import Derived.Lib.ParseIntBCases
import Derived.Test.YtccebdpjdpjgnaaGreatDoorMP15
import Derived.Test.YtccebdpjdpjgnaaGreatDoorMP18
set_option linter.unusedVariables false
set_option linter.unusedSimpArgs false
namespace Go.Proofs.YtccebdpjdpjgnaaGreatDoor.Q
open Go.Lib hiding bytesOf bytesOf_length
open Go Go.RowKit Sch Go.Proofs.YtccebdpjdpjgnaaGreatDoor.P Go.Proofs.YtccebdpjdpjgnaaGreatDoorW.PrintWords Go.Proofs.YtccebdpjdpjgnaaGreatDoorW.PrintLast Go.Proofs.YtccebdpjdpjgnaaGreatDoorW.PrintMore
set_option linter.unusedVariables false
set_option linter.unusedSimpArgs false
theorem ns_list (n : Nat) : (ns n).toList = decDigits n := by rw [toList_data]; rfl
theorem uint_digits : ∀ (l : List UInt8) (acc : Nat), (∀ c ∈ l, isD c) → acc * 10 ^ l.length + dv l < 18446744073709551616 → parseUint10 acc l = .ok (acc * 10 ^ l.length + dv l)
 | [], acc, _, _ => by simp [parseUint10, dv]
 | c :: l, acc, h, hb => by
  have hc := h c (by simp)
  have e1 : dv (c :: l) = (c.toNat - 48) * 10 ^ l.length + dv l := by rw [show c :: l = [c] ++ l from rfl, dv_append]; simp [dv]
  have hp : 1 ≤ 10 ^ l.length := Nat.one_le_pow _ _ (by decide)
  have e2 : acc * 10 ^ (c :: l).length + dv (c :: l) = (acc * 10 + (c.toNat - 48)) * 10 ^ l.length + dv l := by
   rw [e1, List.length_cons, Nat.pow_succ, Nat.add_mul, Nat.mul_comm (10 ^ l.length) 10, Nat.mul_assoc, Nat.add_assoc]
  rw [e2] at hb ⊢
  have hle : acc * 10 + (c.toNat - 48) ≤ (acc * 10 + (c.toNat - 48)) * 10 ^ l.length := Nat.le_mul_of_pos_right _ hp
  rw [parseUint10, if_pos (show 48 ≤ c.toNat ∧ c.toNat ≤ 57 from hc), if_neg (by omega), if_neg (by omega)]
  exact uint_digits l _ (fun d hd => h d (by simp [hd])) hb
theorem mag_dec {n : Nat} (h : n < 18446744073709551616) : parseMag (decDigits n) = .ok n := by
 have h1 := dec_len_pos n
 unfold parseMag
 rw [if_neg (by rintro e; rw [e] at h1; simp at h1), uint_digits _ _ (dec_isD n) (by rw [dv_dec]; omega), dv_dec]
 simp
theorem head_digit (n : Nat) : ∃ c r, decDigits n = c :: r ∧ c.toNat ≠ 43 ∧ c.toNat ≠ 45 := by
 have h1 := dec_len_pos n
 cases e : decDigits n with
 | nil => rw [e] at h1; simp at h1
 | cons c r =>
  have := dec_isD n c (by rw [e]; simp)
  unfold isD at this
  exact ⟨c, r, rfl, by omega, by omega⟩
theorem zs_nat (n : Nat) : zs n = ns n := by
 unfold zs ns itoa
 rw [if_neg (by omega), Int.toNat_natCast]
theorem zs_neg {n : Nat} (h : n ≠ 0) : zs (-(n : Int)) = ⟨(45 :: decDigits n).toArray⟩ := by
 unfold zs itoa
 rw [if_pos (by omega)]
 simp
theorem nat_or_neg (z : Int) : (∃ n : Nat, z = n) ∨ (∃ n : Nat, n ≠ 0 ∧ z = -(n : Int)) := by
 rcases Int.lt_or_le z 0 with h | h
 ·right; exact ⟨z.natAbs, by omega, by omega⟩
 ·left; exact ⟨z.toNat, by omega⟩
theorem atoi_zs {z : Int} (h0 : -9223372036854775808 ≤ z) (h1 : z ≤ 9223372036854775807) : strconv_Atoi.f (zs z) = some (z, none) := by
 unfold strconv_Atoi.f
 rcases nat_or_neg z with ⟨n, rfl⟩ | ⟨n, hn, rfl⟩
 ·rw [zs_nat, ns_size]
  obtain ⟨c, r, e, g1, g2⟩ := head_digit n
  have hd : nDigits n ≤ 20 := nd_le (by omega) (by decide)
  have : atoiAll (ns n).data.toList = .ok (n : Int) := by
   rw [ns_toList, e, atoiAll_plain c r g1 g2, ← e, mag_dec (by omega)]
   simp only [signless]
   rw [if_neg (by omega)]
  rw [this, if_pos (by omega)]
 ·rw [zs_neg hn]
  have hd : nDigits n ≤ 20 := nd_le (by omega) (by decide)
  have hs : (⟨(45 :: decDigits n).toArray⟩ : ByteArray).size ≤ 21 := by
   simp only [ByteArray.size, List.size_toArray, List.length_cons, decDigits_length]; omega
  have : atoiAll (45 :: decDigits n) = .ok (-(n : Int)) := by
   rw [atoiAll_minus, mag_dec (by omega)]
   simp only [signed]
   rw [if_neg (by omega)]
  simp only [this]
  rw [if_pos (by omega)]
theorem uint_ns {n : Nat} (h : n < 18446744073709551616) : strconv_ParseUint.f (ns n) 10 64 = some ((n : Int), none) := by
 unfold strconv_ParseUint.f
 have hd : nDigits n ≤ 20 := nd_le (by omega) (by decide)
 rw [ns_size, if_pos ⟨by omega, rfl, rfl⟩, ns_toList, parseUintB_64, mag_dec h]
theorem small_ns {n : Nat} (h : n < 18446744073709551616) : decimal_Small.f (ns n) = some ((n : Int), true) := by
 unfold decimal_Small.f
 rw [uint_ns h]; rfl
theorem dof_ns {n : Int} {m : Nat} (e : n = m) (h : m < 18446744073709551616) : decimal_Of.f n = some (ns m) := by
 subst e
 unfold decimal_Of.f strconv_FormatUint.f
 rw [if_pos ⟨by omega, by omega, rfl⟩]
 rfl
theorem nd18 {n : Nat} (h : nDigits n ≤ 18) : n < 1000000000000000000 := nd_lt h
theorem both_ev (a b : Nat) : Ev (fun k => decimal_both.f k (ns a) (ns b)) (if nDigits a ≤ 18 ∧ nDigits b ≤ 18 then ((a : Int), (b : Int), true) else (0, 0, false)) := by
 unfold decimal_both.f
 rw [ns_size, ns_size]
 by_cases ha : nDigits a ≤ 18
 ·refine Ev.ite_neg (by omega) (Ev.succ ?_)
  simp only [decimal_both.j0]
  by_cases hb : nDigits b ≤ 18
  ·have h1 := nd18 ha
   have h2 := nd18 hb
   refine Ev.ite_neg (by simp; omega) (Ev.val ?_)
   rw [small_ns (by omega), small_ns (by omega), if_pos ⟨ha, hb⟩]; rfl
  ·refine Ev.ite_pos (by simp; omega) (Ev.val ?_)
   rw [if_neg (by omega)]
 ·refine Ev.ite_pos (by omega) (Ev.succ ?_)
  simp only [decimal_both.j0]
  refine Ev.ite_pos (by simp) (Ev.val ?_)
  rw [if_neg (by omega)]
theorem fix_cons (k : Nat) : ∀ n, fix (k + 1) n = UInt8.ofNat (48 + n / 10 ^ k % 10) :: fix k n := by
 induction k with
 | zero => intro n; simp [fix]
 | succ k ih =>
  intro n
  rw [fix, ih, fix, Nat.div_div_eq_div_mul, Nat.mul_comm 10, ← Nat.pow_succ]
  rfl
theorem lex_fix : ∀ (k a b : Nat), a < 10 ^ k → b < 10 ^ k → Op.bytesLess (fix k a) (fix k b) = decide (a < b)
 | 0, a, b, ha, hb => by simp at ha hb; subst ha; subst hb; rfl
 | k + 1, a, b, ha, hb => by
  rw [Nat.pow_succ] at ha hb
  have hp : 0 < 10 ^ k := Nat.pow_pos (by decide)
  have da : a / 10 ^ k < 10 := Nat.div_lt_of_lt_mul ha
  have db : b / 10 ^ k < 10 := Nat.div_lt_of_lt_mul hb
  have ha2 := Nat.mod_lt a hp
  have hb2 := Nat.mod_lt b hp
  have ea := Nat.mod_add_div a (10 ^ k)
  have eb := Nat.mod_add_div b (10 ^ k)
  have fm : ∀ n, fix k n = fix k (n % 10 ^ k) := fun n => by
   have h1 := eq_fix (fix k n) (fix_isD k n)
   rw [fix_length, dv_fix] at h1
   exact h1
  rw [fix_cons, fix_cons, Nat.mod_eq_of_lt da, Nat.mod_eq_of_lt db, Op.bytesLess, fm a, fm b, lex_fix k _ _ ha2 hb2]
  have hlt : (UInt8.ofNat (48 + a / 10 ^ k) < UInt8.ofNat (48 + b / 10 ^ k)) ↔ a / 10 ^ k < b / 10 ^ k := by
   rw [UInt8.lt_iff_toNat_lt, digit_toNat da, digit_toNat db]; omega
  have heq : (UInt8.ofNat (48 + a / 10 ^ k) == UInt8.ofNat (48 + b / 10 ^ k)) = decide (a / 10 ^ k = b / 10 ^ k) := by
   rw [Bool.eq_iff_iff, beq_iff_eq, decide_eq_true_eq]
   constructor
   ·intro h; have := congrArg UInt8.toNat h; rw [digit_toNat da, digit_toNat db] at this; omega
   ·intro h; rw [h]
  have hlt2 : decide (UInt8.ofNat (48 + a / 10 ^ k) < UInt8.ofNat (48 + b / 10 ^ k)) = decide (a / 10 ^ k < b / 10 ^ k) := decide_eq_decide.2 hlt
  rw [heq, hlt2]
  rw [Bool.eq_iff_iff]
  simp only [Bool.or_eq_true, Bool.and_eq_true, decide_eq_true_eq]
  constructor
  ·rintro (h | ⟨h1, h2⟩)
   ·have := Nat.mul_le_mul_left (10 ^ k) (show a / 10 ^ k + 1 ≤ b / 10 ^ k from h)
    rw [Nat.mul_add, Nat.mul_one] at this
    omega
   ·rw [h1] at ea; omega
  ·intro h
   rcases Nat.lt_trichotomy (a / 10 ^ k) (b / 10 ^ k) with h1 | h1 | h1
   ·exact .inl h1
   ·right; rw [h1] at ea; exact ⟨h1, by omega⟩
   ·have := Nat.mul_le_mul_left (10 ^ k) (show b / 10 ^ k + 1 ≤ a / 10 ^ k from h1)
    rw [Nat.mul_add, Nat.mul_one] at this
    omega
theorem dec_fix (n : Nat) : decDigits n = fix (nDigits n) n := by
 have h := eq_fix (decDigits n) (dec_isD n)
 rw [decDigits_length, dv_dec] at h
 exact h
theorem lex_dec {a b : Nat} (h : nDigits a = nDigits b) : Op.bytesLess (decDigits a) (decDigits b) = decide (a < b) := by
 rw [dec_fix a, dec_fix b, h]
 exact lex_fix _ _ _ (h ▸ lt_pow_nDigits a) (lt_pow_nDigits b)
theorem compare_ns (a b : Nat) (ha : nDigits a ≤ 100000) (hb : nDigits b ≤ 100000) : decimal_Compare.f (ns a) (ns b) = some (cmpI a b) := by
 unfold decimal_Compare.f
 rw [ns_size, ns_size, if_pos ⟨by omega, by omega⟩, ns_list, ns_list]
 congr 1
 unfold cmpI
 by_cases h : nDigits a = nDigits b
 ·rw [if_pos h, lex_dec h]
  simp only [decide_eq_true_eq]
  by_cases h1 : a < b
  ·rw [if_pos h1, if_pos (show (a : Int) < b by omega)]
  ·rw [if_neg h1, if_neg (show ¬ (a : Int) < b by omega)]
   by_cases h2 : a = b
   ·subst h2; rw [if_pos rfl, if_pos rfl]
   ·rw [if_neg (fun e => h2 (dec_inj e)), if_neg (show ¬ (a : Int) = b by omega)]
 ·rw [if_neg h]
  by_cases h1 : nDigits a < nDigits b
  ·have : a < b := by
    apply Nat.lt_of_not_le
    intro hc
    have := nd_mono hc
    omega
   rw [if_pos h1, if_pos (show (a : Int) < b by omega)]
  ·have : b < a := by
    apply Nat.lt_of_not_le
    intro hc
    have := nd_mono hc
    omega
   rw [if_neg h1, if_neg (show ¬ (a : Int) < b by omega), if_neg (show ¬ (a : Int) = b by omega)]
theorem pc_len_nd {n : Nat} : (pc n).length ≤ nDigits n := by
 apply pc_len_le
 rw [B9_ten]
 have h1 := lt_pow_nDigits n
 have h2 := Nat.pow_le_pow_right (show 0 < 10 by decide) (show nDigits n ≤ 9 * nDigits n by omega)
 omega
theorem text_ev (n : Nat) (hb : nDigits n ≤ 1000000) : Ev (fun k => decimal_pieces_text.f k (pc n)) (ns n) := by
 have hl := pc_len_nd (n := n)
 unfold decimal_pieces_text.f
 by_cases hn : n = 0
 ·subst hn
  exact Ev.ite_pos (by rw [pc_zero]; rfl) (Ev.val (by unfold ns; rw [dec_small (by decide)]; rfl))
 ·have h0 : (pc n).length ≠ 0 := fun e => hn (pc_length_zero.1 e)
  refine Ev.ite_neg (by omega) ?_
  rw [w64 (by omega) (by omega)]
  refine Ev.ite_pos (by omega) (Ev.ite_pos (by omega) (Ev.succ ?_))
  simp only [decimal_pieces_text.l0]
  refine Ev.ite_pos (by omega) (Ev.ite_pos (by omega) (Ev.ite_pos (by omega) ?_))
  have := text_loop n hn hb (by omega) ((pc n).length * 10) 0 0 _ (by omega) (by omega) (by omega) (by omega) rfl
  have e := pc_getD 0 n
  rw [show (0 : Int) = ((0 : Nat) : Int) from rfl, rd_nat, e]
  simpa [digR] using this
theorem mul_ev (a b : Nat) (ha : nDigits a ≤ 100000) (hb : nDigits b ≤ 100000) : Ev (fun k => decimal_Mul.f k (ns a) (ns b)) (ns (a * b)) := by
 unfold decimal_Mul.f
 rw [ns_size, ns_size, w64 (by omega) (by omega)]
 have pa := nDigits_pos a
 have pb := nDigits_pos b
 by_cases h : nDigits a + nDigits b ≤ 18
 ·refine Ev.ite_pos (by omega) (Ev.bindr (Ev.eq (both_ev a b) (if_pos ⟨by omega, by omega⟩)) ?_)
  have h1 : a * b < 10 ^ (nDigits a + nDigits b) := by rw [Nat.pow_add]; exact Nat.mul_lt_mul'' (lt_pow_nDigits a) (lt_pow_nDigits b)
  have h2 := Nat.pow_le_pow_right (show 0 < 10 by decide) h
  dsimp only
  rw [← Int.natCast_mul, wu64 (by omega) (by omega), dof_ns rfl (by omega)]; rfl
 ·refine Ev.ite_neg (by omega) (Ev.bind (cut_ev a ha) (Ev.bind (cut_ev b hb) (Ev.bind (times_pc a b (Nat.le_trans pc_len_nd (by omega)) (Nat.le_trans pc_len_nd (by omega))) (Ev.bindr (text_ev _ ?_) rfl))))
  have := nd_mul a b
  omega
theorem ns_eq_dig {n m : Nat} (hm : m < 10) : ((ns n).toList = ([UInt8.ofNat (48 + m)] : List UInt8)) ↔ n = m := by
 rw [ns_list, ← dec_small hm]
 exact ⟨dec_inj, fun h => by rw [h]⟩
theorem ns_eq0 {n : Nat} : ((ns n).toList = ([48] : List UInt8)) ↔ n = 0 := ns_eq_dig (m := 0) (by decide)
theorem ns_eq1 {n : Nat} : ((ns n).toList = ([49] : List UInt8)) ↔ n = 1 := ns_eq_dig (m := 1) (by decide)
theorem ns0 : (⟨#[48]⟩ : ByteArray) = ns 0 := by unfold ns; rw [dec_small (by decide)]; rfl
theorem ns1 : (⟨#[49]⟩ : ByteArray) = ns 1 := by unfold ns; rw [dec_small (by decide)]; rfl
theorem divmod_ev (a b : Nat) (ha : nDigits a ≤ 100000) (hb : nDigits b ≤ 100000) (h0 : b ≠ 0) : Ev (fun k => decimal_DivMod.f k (ns a) (ns b)) (ns (a / b), ns (a % b), 0) := by
 unfold decimal_DivMod.f
 refine Ev.ite_neg (by rw [ns_eq0]; exact h0) (Ev.bind (both_ev a b) ?_)
 have hq : a / b ≤ a := Nat.div_le_self _ _
 have hr : a % b ≤ a := Nat.mod_le _ _
 by_cases h : nDigits a ≤ 18 ∧ nDigits b ≤ 18
 ·rw [if_pos h]
  have h1 := nd18 h.1
  have h2 := nd18 h.2
  refine Ev.ite_pos rfl (Ev.ite_neg (by simpa using h0) (Ev.val ?_))
  dsimp only
  rw [Int.tdiv_eq_ediv_of_nonneg (by omega), Int.tmod_eq_emod_of_nonneg (by omega), ← Int.natCast_ediv, ← Int.natCast_emod, wu64 (x := ((a / b : Nat) : Int)) (Int.natCast_nonneg _) (by omega), dof_ns rfl (by omega), dof_ns rfl (by omega)]
  rfl
 ·rw [if_neg h]
  have la := pc_len_nd (n := a)
  have lb := pc_len_nd (n := b)
  refine Ev.ite_neg (by simp) (Ev.bind (cut_ev a ha) (Ev.bind (cut_ev b hb) (Ev.bind (compare_pc a b (by omega) (by omega)) ?_)))
  by_cases hab : a < b
  ·refine Ev.ite_pos (by unfold cmpI; rw [if_pos (by omega)]; decide) (Ev.val ?_)
   rw [Nat.div_eq_of_lt hab, Nat.mod_eq_of_lt hab, ns0]
  ·refine Ev.ite_neg (by unfold cmpI; rw [if_neg (by omega)]; split <;> omega) ?_
   have dq := nd_mono hq
   have dr := nd_mono hr
   by_cases h1 : (pc b).length = 1
   ·refine Ev.ite_pos (by omega) (Ev.ite_pos (by omega) ?_)
    have hb9 : rd (pc b) 0 = b := by
     have h2 := pc_lt b
     rw [h1] at h2
     rw [show (0 : Int) = ((0 : Nat) : Int) from rfl, rd_nat, pc_getD]
     simp only [Nat.mul_zero, Nat.pow_zero, Nat.div_one]
     rw [Nat.mod_eq_of_lt (by unfold B9 at h2; omega)]
    have h2 := pc_lt b
    rw [h1] at h2
    rw [hb9]
    refine Ev.bind (small_ev (pc_ok a) (by omega) (by unfold B9 at *; omega) (by omega)) ?_
    rw [pv_pc, ← Int.natCast_ediv, ← Int.natCast_emod, Int.toNat_natCast]
    refine Ev.bind (text_ev _ (by omega)) (Ev.val ?_)
    have hm := Nat.mod_lt a (show b > 0 by omega)
    rw [dof_ns rfl (by unfold B9 at *; omega)]; rfl
   ·have h2 : (pc b).length ≠ 0 := fun e => h0 (pc_length_zero.1 e)
    refine Ev.ite_neg (by omega) (Ev.bind (divide_ev a b (by omega) (by omega) (by omega)) (Ev.bind (text_ev _ (by omega)) (Ev.bindr (text_ev _ (by omega)) rfl)))
theorem gcd_ev (a b : Nat) (ha : nDigits a ≤ 100000) (hb : nDigits b ≤ 100000) : Ev (fun k => decimal_Gcd.f k (ns a) (ns b)) (ns (Nat.gcd b a)) := by
 unfold decimal_Gcd.f
 induction b using Nat.strongRecOn generalizing a with
 | _ b ih =>
  refine Ev.succ ?_
  simp only [decimal_Gcd.l0]
  by_cases h0 : b = 0
  ·subst h0
   exact Ev.ite_pos (ns_eq0.2 rfl) (Ev.val (by rw [Nat.gcd_zero_left]))
  ·refine Ev.ite_neg (by rw [ns_eq0]; exact h0) (Ev.bind (divmod_ev a b ha hb h0) (Ev.ite_pos rfl ?_))
   have hm := Nat.mod_lt a (show b > 0 by omega)
   rw [Nat.gcd_rec b a]
   exact ih (a % b) hm b hb (Nat.le_trans (nd_mono (Nat.le_of_lt hm)) hb)
theorem dcheck_ev (s : ByteArray) (hs : s.size ≤ 140737488355328) : Ev (fun k => decimal_Check.f k s) (if canonB s.data.toList = true ∧ s.size ≤ 400 then 0 else 2) := by
 unfold decimal_Check.f
 refine Ev.bind (canonical_ev s hs) ?_
 by_cases h : canonB s.data.toList = true
 ·refine Ev.ite_pos h ?_
  by_cases h2 : s.size ≤ 400
  ·exact Ev.ite_neg (by omega) (Ev.val (by rw [if_pos ⟨h, h2⟩]))
  ·exact Ev.ite_pos (by omega) (Ev.val (by rw [if_neg (by omega)]))
 ·exact Ev.ite_neg h (Ev.val (by rw [if_neg (fun e => h e.1)]))
end Go.Proofs.YtccebdpjdpjgnaaGreatDoor.Q
