/-
Plain laws: the operations on pieces of nine digits give the pieces of the sum, the product, the difference, the quotient and the rest.
-/
import Derived.Test.YtccebdpjdpjgnaaGreatDoorMP10
import Derived.Test.YtccebdpjdpjgnaaGreatDoorMP11
import Derived.Test.YtccebdpjdpjgnaaGreatDoorMP12
set_option linter.unusedVariables false
set_option linter.unusedSimpArgs false
namespace Go.Proofs.YtccebdpjdpjgnaaGreatDoor.Q
open Go Go.RowKit Sch Go.Lib Go.Proofs.YtccebdpjdpjgnaaGreatDoor.P Go.Proofs.YtccebdpjdpjgnaaGreatDoorW.PrintWords Go.Proofs.YtccebdpjdpjgnaaGreatDoorW.PrintLast Go.Proofs.YtccebdpjdpjgnaaGreatDoorW.PrintMore
set_option linter.unusedVariables false
set_option linter.unusedSimpArgs false
theorem rd_nat (l : List Int) (i : Nat) : rd l (i : Int) = l.getD i 0 := by unfold rd; simp
theorem getD_append_last (l : List Int) (x : Int) : (l ++ [x]).getD l.length 0 = x := by simp [List.getD_eq_getElem?_getD]
theorem trim_ev : ∀ (n : Nat) (l : List Int), l.length = n → n ≤ 1000000000000 → Ev (fun k => decimal_pieces_trim.f k l) (stripP l) := by
 intro n
 induction n with
 | zero =>
  intro l hl _
  obtain rfl := List.length_eq_zero_iff.1 hl
  unfold decimal_pieces_trim.f
  refine Ev.succ ?_
  simp only [decimal_pieces_trim.l0]
  exact Ev.ite_neg (by simp) (Ev.val rfl)
 | succ n ih =>
  intro l hl hn
  obtain ⟨m, x, rfl⟩ : ∃ m x, l = m ++ [x] := ⟨l.dropLast, l.getLast (by rintro rfl; simp at hl), (List.dropLast_concat_getLast _).symm⟩
  have hm : m.length = n := by simpa using hl
  unfold decimal_pieces_trim.f
  refine Ev.succ ?_
  have e1 : (((n + 1 : Nat)) : Int) - 1 = (n : Int) := by omega
  simp only [decimal_pieces_trim.l0, hl, e1]
  rw [w64 (by omega) (by omega)]
  refine Ev.ite_pos (by omega) (Ev.ite_pos (by omega) (Ev.ite_pos (by omega) ?_))
  rw [rd_nat, ← hm, getD_append_last]
  by_cases hx : x = 0
  ·subst hx
   refine Ev.ite_pos rfl (Ev.ite_pos (by omega) ?_)
   rw [stripP_snoc_zero]
   have := ih m hm (by omega)
   unfold decimal_pieces_trim.f at this
   simpa using this
  ·refine Ev.ite_neg hx (Ev.val ?_)
   rw [stripP_snoc hx]
theorem trim_pc {l : List Int} (h : okP l) (hn : l.length ≤ 1000000000000) : Ev (fun k => decimal_pieces_trim.f k l) (pc (pv l).toNat) :=
 Ev.eq (trim_ev _ l rfl hn) (strip_eq h)
theorem getD_set_self (l : List Int) (i : Nat) (v : Int) (h : i < l.length) : (l.set i v).getD i 0 = v := by simp [List.getD_eq_getElem?_getD, h]
theorem getD_set_ne (l : List Int) (i j : Nat) (v : Int) (h : i ≠ j) : (l.set i v).getD j 0 = l.getD j 0 := by
 rw [List.getD_eq_getElem?_getD, List.getElem?_set_ne h, ← List.getD_eq_getElem?_getD]
theorem step_digit {c a b o : Int} (hc0 : 0 ≤ c) (hc : c < B9) (ha0 : 0 ≤ a) (ha : a < B9) (hb0 : 0 ≤ b) (hb : b < B9) (ho0 : 0 ≤ o) (ho : o < B9) :
  0 ≤ a * b ∧ a * b ≤ 999999999 * 999999999 ∧ 0 ≤ (c + (o + a * b)) / B9 ∧ (c + (o + a * b)) / B9 < B9 := by
 have h1 : 0 ≤ a * b := Int.mul_nonneg ha0 hb0
 have h2 : a * b ≤ 999999999 * 999999999 := Int.mul_le_mul (by unfold B9 at *; omega) (by unfold B9 at *; omega) hb0 (by decide)
 refine ⟨h1, h2, ?_, ?_⟩ <;> unfold B9 at * <;> omega
theorem times_inner (q p : List Int) (hq : okP q) (hql : q.length ≤ 1000000000) (r : List Int) (i : Nat) (a : Int) (ha0 : 0 ≤ a) (ha : a < B9) (hp : p.length ≤ 1000000000) (hi : i < p.length) :
  ∀ (d j : Nat) (out : List Int) (c : Int), q.length = j + d → okP out → out.length = p.length + q.length → 0 ≤ c → c < B9 →
   (∀ out2 : List Int, okP out2 → out2.length = p.length + q.length → pv out2 = pv out + B9 ^ (i + j) * (c + a * pv (q.drop j)) - B9 ^ (i + q.length) * out.getD (i + q.length) 0 →
    Ev (fun k => decimal_pieces_times.l0 k q out2 p (p.length : Int) ((i : Int) + 1)) r) →
   Ev (fun k => decimal_pieces_times.l1 k q out (i : Int) a c p (p.length : Int) (i : Int) q (q.length : Int) (j : Int)) r := by
 intro d
 induction d with
 | zero =>
  intro j out c hj hok hlen hc0 hc hk
  have hj : j = q.length := by omega
  subst hj
  refine Ev.succ ?_
  simp only [decimal_pieces_times.l1]
  refine Ev.ite_neg (by omega) ?_
  rw [w64 (by omega) (by omega), w64 (by omega) (by omega)]
  refine Ev.ite_pos (by omega) (Ev.ite_pos (by rw [hlen]; omega) ?_)
  have e1 : ((i : Int) + (q.length : Int)).toNat = i + q.length := by omega
  rw [e1]
  refine hk _ (okP_set hok hc0 hc) (by simpa using hlen) ?_
  rw [pv_set _ _ _ (by rw [hlen]; omega), List.drop_length]
  simp only [pv, Int.mul_zero, Int.add_zero, Int.mul_sub]
  omega
 | succ d ih =>
  intro j out c hj hok hlen hc0 hc hk
  have hjl : j < q.length := by omega
  obtain ⟨b0, b1⟩ := okP_getD hq j
  obtain ⟨o0, o1⟩ := okP_getD hok (i + j)
  obtain ⟨m0, m1, n0, n1⟩ := step_digit hc0 hc ha0 ha b0 b1 o0 o1
  refine Ev.succ ?_
  simp only [decimal_pieces_times.l1]
  rw [w64 (x := (i : Int) + (j : Int)) (by omega) (by omega), w64 (x := (j : Int) + 1) (by omega) (by omega)]
  refine Ev.ite_pos (by omega) (Ev.ite_pos (by omega) (Ev.ite_pos (by omega) (Ev.ite_pos (by omega) (Ev.ite_pos (by rw [hlen]; omega) ?_))))
  have e1 : (i : Int) + (j : Int) = ((i + j : Nat) : Int) := by omega
  rw [e1, rd_nat, rd_nat, Int.toNat_natCast]
  generalize hb : q.getD j 0 = b at *
  generalize ho : out.getD (i + j) 0 = o at *
  rw [wu64 m0 (by omega), wu64 (x := o + a * b) (by omega) (by unfold B9 at *; omega), wu64 (x := c + (o + a * b)) (by omega) (by unfold B9 at *; omega)]
  rw [Int.tmod_eq_emod_of_nonneg (by omega), Int.tdiv_eq_ediv_of_nonneg (by omega)]
  have hdm := Int.emod_add_mul_ediv (c + (o + a * b)) 1000000000
  have hm0 : 0 ≤ (c + (o + a * b)) % 1000000000 := Int.emod_nonneg _ (by decide)
  have hm1 : (c + (o + a * b)) % 1000000000 < 1000000000 := Int.emod_lt_of_pos _ (by decide)
  rw [wu64 (x := (c + (o + a * b)) / 1000000000) n0 (by unfold B9 at *; omega)]
  generalize (c + (o + a * b)) % 1000000000 = u at *
  generalize hv : (c + (o + a * b)) / 1000000000 = v at *
  have n0' : 0 ≤ v := by unfold B9 at *; omega
  have n1' : v < B9 := by unfold B9 at *; omega
  refine ih (j + 1) (out.set (i + j) u) v (by omega) (okP_set hok hm0 hm1) (by simpa using hlen) n0' n1' (fun out2 h1 h2 h3 => hk out2 h1 h2 ?_)
  rw [h3, pv_set _ _ _ (by rw [hlen]; omega), ho, pv_drop q j hjl, hb]
  have e2 : (out.set (i + j) u).getD (i + q.length) 0 = out.getD (i + q.length) 0 := by
   rw [List.getD_eq_getElem?_getD, List.getElem?_set_ne (by omega), ← List.getD_eq_getElem?_getD]
  rw [e2, show i + (j + 1) = i + j + 1 from rfl, B9_succ]
  generalize B9 ^ (i + j) = X
  generalize B9 ^ (i + q.length) * out.getD (i + q.length) 0 = Y
  generalize pv (q.drop (j + 1)) = Z
  have hu : u = c + (o + a * b) - B9 * v := by unfold B9; omega
  subst hu
  have : X * (c + (o + a * b) - B9 * v - o) + X * B9 * (v + a * Z) = X * (c + a * (b + B9 * Z)) := by grind
  omega
theorem zero_above {l : List Int} (h : okP l) {t : Nat} (hl : pv l < B9 ^ t) : l.getD t 0 = 0 := by
 by_cases ht : t < l.length
 ·have h1 := pv_take_drop l t (by omega)
  have h2 := pv_nonneg (okP_take h t)
  have h3 := pv_drop l t ht
  have h4 := pv_nonneg (okP_drop h (t + 1))
  obtain ⟨g0, g1⟩ := okP_getD h t
  apply Classical.byContradiction
  intro hc
  have h5 : 1 ≤ pv (l.drop t) := by unfold B9 at *; omega
  have h6 := Int.mul_le_mul_of_nonneg_left h5 (Int.le_of_lt (B9_pos t))
  omega
 ·rw [List.getD_eq_getElem?_getD, List.getElem?_eq_none (by omega)]; rfl
theorem times_outer (q p : List Int) (hp : okP p) (hq : okP q) (hpl : p.length ≤ 1000000000) (hql : q.length ≤ 1000000000) :
  ∀ (d i : Nat) (out : List Int), p.length = i + d → okP out → out.length = p.length + q.length → pv out = pv (p.take i) * pv q →
   Ev (fun k => decimal_pieces_times.l0 k q out p (p.length : Int) (i : Int)) (pc (pv p * pv q).toNat) := by
 intro d
 induction d with
 | zero =>
  intro i out hi hok hlen hv
  refine Ev.succ ?_
  simp only [decimal_pieces_times.l0]
  refine Ev.ite_neg (by omega) (Ev.bindr (trim_pc hok (by omega)) ?_)
  rw [hv, List.take_of_length_le (by omega)]
 | succ d ih =>
  intro i out hi hok hlen hv
  obtain ⟨a0, a1⟩ := okP_getD hp i
  refine Ev.succ ?_
  simp only [decimal_pieces_times.l0]
  refine Ev.ite_pos (by omega) (Ev.ite_pos (by omega) (Ev.ite_pos (by omega) ?_))
  rw [rd_nat]
  refine times_inner q p hq hql _ i _ a0 a1 hpl (by omega) q.length 0 out 0 (by omega) hok hlen (Int.le_refl _) (by decide) (fun out2 h1 h2 h3 => ?_)
  refine ih (i + 1) out2 (by omega) h1 h2 ?_
  rw [h3, pv_take_succ p i (by omega), hv, zero_above hok (t := i + q.length)]
  ·simp only [Nat.add_zero, List.drop_zero, Int.zero_add, Int.mul_zero, Int.sub_zero, Int.add_mul]
   rw [Int.mul_assoc]
  ·rw [hv, B9_add]
   have h4 : pv (p.take i) < B9 ^ i := by
    have := pv_lt (okP_take hp i)
    rwa [List.length_take, Nat.min_eq_left (by omega)] at this
   have h5 := pv_lt hq
   have h6 : pv (p.take i) * pv q ≤ pv (p.take i) * B9 ^ q.length := Int.mul_le_mul_of_nonneg_left (Int.le_of_lt h5) (pv_nonneg (okP_take hp i))
   exact Int.lt_of_le_of_lt h6 (Int.mul_lt_mul_of_pos_right h4 (B9_pos _))
theorem times_ev {p q : List Int} (hp : okP p) (hq : okP q) (hpl : p.length ≤ 1000000000) (hql : q.length ≤ 1000000000) :
  Ev (fun k => decimal_pieces_times.f k p q) (pc (pv p * pv q).toNat) := by
 unfold decimal_pieces_times.f
 rw [w64 (by omega) (by omega)]
 refine Ev.ite_pos (by omega) (Ev.ite_pos (by omega) ?_)
 have e1 : ((p.length : Int) + (q.length : Int)).toNat = p.length + q.length := by omega
 rw [e1]
 exact times_outer q p hp hq hpl hql p.length 0 _ (by omega) (okP_replicate _) (by simp) (by simp [pv_replicate, pv])
theorem times_pc (a b : Nat) (ha : (pc a).length ≤ 1000000000) (hb : (pc b).length ≤ 1000000000) : Ev (fun k => decimal_pieces_times.f k (pc a) (pc b)) (pc (a * b)) := by
 have := times_ev (pc_ok a) (pc_ok b) ha hb
 rw [pv_pc, pv_pc] at this
 exact Ev.eq this (by rw [← Int.natCast_mul, Int.toNat_natCast])
theorem pv_set_drop (l : List Int) (i : Nat) (v : Int) (h : i < l.length) : pv ((l.set i v).drop i) = v + B9 * pv (l.drop (i + 1)) := by
 rw [pv_drop _ _ (by simpa using h), getD_set_self l i v h, List.drop_set_of_lt (by omega)]
theorem small_loop (p : List Int) (n : Int) (hp : okP p) (hn0 : 1 ≤ n) (hn1 : n ≤ B9) (hpl : p.length ≤ 1000000000) :
  ∀ (i : Nat) (out : List Int) (rest : Int), i ≤ p.length → okP out → out.length = p.length → 0 ≤ rest → rest < n → pv (p.drop i) = n * pv (out.drop i) + rest →
   Ev (fun k => decimal_pieces_small.l0 k p n out rest ((i : Int) - 1)) (pc (pv p / n).toNat, pv p % n) := by
 intro i
 induction i with
 | zero =>
  intro out rest hi hok hlen hr0 hr1 hv
  refine Ev.succ ?_
  simp only [decimal_pieces_small.l0]
  refine Ev.ite_neg (by omega) (Ev.bindr (trim_pc hok (by omega)) ?_)
  simp only [List.drop_zero] at hv
  have h1 : pv p / n = pv out := by
   rw [hv, Int.add_comm, Int.add_mul_ediv_left _ _ (by omega), Int.ediv_eq_zero_of_lt hr0 hr1]; omega
  have h2 : pv p % n = rest := by
   rw [hv, Int.add_comm, Int.add_mul_emod_self_left, Int.emod_eq_of_lt hr0 hr1]
  rw [h1, h2]
 | succ i ih =>
  intro out rest hi hok hlen hr0 hr1 hv
  obtain ⟨a0, a1⟩ := okP_getD hp i
  refine Ev.succ ?_
  simp only [decimal_pieces_small.l0]
  have e1 : ((i + 1 : Nat) : Int) - 1 = (i : Int) := by omega
  rw [e1]
  refine Ev.ite_pos (by omega) (Ev.ite_pos (by omega) (Ev.ite_pos (by omega) (Ev.ite_neg (by omega) (Ev.ite_pos (by omega) ?_))))
  rw [rd_nat, Int.toNat_natCast]
  generalize ha : p.getD i 0 = a at *
  rw [wu64 (x := rest * 1000000000) (by omega) (by unfold B9 at *; omega), wu64 (x := rest * 1000000000 + a) (by omega) (by unfold B9 at *; omega)]
  rw [Int.tmod_eq_emod_of_nonneg (by omega), Int.tdiv_eq_ediv_of_nonneg (by omega)]
  have hdm := Int.emod_add_mul_ediv (rest * 1000000000 + a) n
  have hm0 : 0 ≤ (rest * 1000000000 + a) % n := Int.emod_nonneg _ (by omega)
  have hm1 : (rest * 1000000000 + a) % n < n := Int.emod_lt_of_pos _ (by omega)
  have hv0 : 0 ≤ (rest * 1000000000 + a) / n := Int.ediv_nonneg (by omega) (by omega)
  have hv1 : (rest * 1000000000 + a) / n < B9 := by
   apply Int.ediv_lt_of_lt_mul (by omega)
   have : rest * 1000000000 + a < (rest + 1) * B9 := by rw [Int.add_mul]; unfold B9 at *; omega
   have h3 : (rest + 1) * B9 ≤ n * B9 := Int.mul_le_mul_of_nonneg_right (by omega) (by decide)
   rw [Int.mul_comm B9 n]
   omega
  rw [wu64 (x := (rest * 1000000000 + a) / n) hv0 (by unfold B9 at *; omega), w64 (x := (i : Int) - 1) (by omega) (by omega)]
  generalize (rest * 1000000000 + a) % n = u at *
  generalize (rest * 1000000000 + a) / n = v at *
  refine ih (out.set i v) u (by omega) (okP_set hok hv0 hv1) (by simpa using hlen) hm0 hm1 ?_
  rw [pv_set_drop out i v (by omega), pv_drop p i (by omega), ha, hv]
  generalize pv (out.drop (i + 1)) = Z
  have : n * (v + B9 * Z) = n * v + B9 * (n * Z) := by grind
  rw [this, Int.mul_add]
  unfold B9
  omega
theorem small_ev {p : List Int} {n : Int} (hp : okP p) (hn0 : 1 ≤ n) (hn1 : n ≤ B9) (hpl : p.length ≤ 1000000000) :
  Ev (fun k => decimal_pieces_small.f k p n) (pc (pv p / n).toNat, pv p % n) := by
 unfold decimal_pieces_small.f
 refine Ev.ite_pos (by omega) (Ev.ite_pos (by omega) ?_)
 rw [w64 (by omega) (by omega), Int.toNat_natCast]
 exact small_loop p n hp hn0 hn1 hpl p.length _ 0 (Nat.le_refl _) (okP_replicate _) (by simp) (by omega) (by omega) (by rw [List.drop_length, List.drop_of_length_le (by simp)]; simp [pv])
def cmpI (x y : Int) : Int := if x < y then -1 else if x = y then 0 else 1
theorem compare_loop (p q : List Int) (hp : okP p) (hq : okP q) (hl : p.length = q.length) (hpl : p.length ≤ 1000000000) :
  ∀ i : Nat, i ≤ p.length → Ev (fun k => decimal_pieces_compare.l0 k p q ((i : Int) - 1)) (cmpI (pv (p.take i)) (pv (q.take i))) := by
 intro i
 induction i with
 | zero =>
  intro _
  refine Ev.succ ?_
  simp only [decimal_pieces_compare.l0]
  exact Ev.ite_neg (by omega) (Ev.val (by simp [cmpI, pv]))
 | succ i ih =>
  intro hi
  obtain ⟨a0, a1⟩ := okP_getD hp i
  obtain ⟨b0, b1⟩ := okP_getD hq i
  have e1 : ((i + 1 : Nat) : Int) - 1 = (i : Int) := by omega
  refine Ev.succ ?_
  simp only [decimal_pieces_compare.l0, e1]
  refine Ev.ite_pos (by omega) (Ev.ite_pos (by omega) (Ev.ite_pos (by omega) (Ev.ite_pos (by omega) ?_)))
  rw [rd_nat, rd_nat, pv_take_succ p i (by omega), pv_take_succ q i (by omega), w64 (by omega) (by omega)]
  have hx0 := pv_nonneg (okP_take hp i)
  have hy0 := pv_nonneg (okP_take hq i)
  have hx1 := pv_lt (okP_take hp i)
  have hy1 := pv_lt (okP_take hq i)
  rw [List.length_take, Nat.min_eq_left (by omega)] at hx1 hy1
  have ih := ih (by omega)
  generalize pv (p.take i) = X at *
  generalize pv (q.take i) = Y at *
  generalize p.getD i 0 = a at *
  generalize q.getD i 0 = b at *
  have hP := B9_pos i
  generalize B9 ^ i = P at *
  by_cases h1 : a < b
  ·refine Ev.ite_pos h1 (Ev.val ?_)
   have := Int.mul_le_mul_of_nonneg_left (show a + 1 ≤ b from h1) (Int.le_of_lt hP)
   rw [Int.mul_add, Int.mul_one] at this
   unfold cmpI
   rw [if_pos (by omega)]
  ·refine Ev.ite_neg h1 ?_
   by_cases h2 : a > b
   ·refine Ev.ite_pos h2 (Ev.val ?_)
    have := Int.mul_le_mul_of_nonneg_left (show b + 1 ≤ a from h2) (Int.le_of_lt hP)
    rw [Int.mul_add, Int.mul_one] at this
    unfold cmpI
    rw [if_neg (by omega), if_neg (by omega)]
   ·refine Ev.ite_neg h2 ?_
    have hab : a = b := by omega
    subst hab
    refine Ev.eq ih ?_
    unfold cmpI
    by_cases h3 : X < Y
    ·rw [if_pos h3, if_pos (show X + P * a < Y + P * a by omega)]
    ·rw [if_neg h3, if_neg (show ¬ X + P * a < Y + P * a by omega)]
     by_cases h4 : X = Y
     ·rw [if_pos h4, if_pos (show X + P * a = Y + P * a by omega)]
     ·rw [if_neg h4, if_neg (show ¬ X + P * a = Y + P * a by omega)]
theorem B9_mono {i j : Nat} (h : i ≤ j) : B9 ^ i ≤ B9 ^ j := by
 obtain ⟨d, rfl⟩ : ∃ d, j = i + d := ⟨j - i, by omega⟩
 rw [B9_add]
 have := Int.mul_le_mul_of_nonneg_left (show 1 ≤ B9 ^ d from B9_pos d) (Int.le_of_lt (B9_pos i))
 omega
theorem pc_len_lt {a b : Nat} (h : (pc a).length < (pc b).length) : a < b := by
 have hb : b ≠ 0 := by rintro rfl; rw [pc_zero] at h; simp at h
 have h1 := pc_lt a
 have h2 := pc_ge hb
 have h3 := B9_mono (show (pc a).length ≤ (pc b).length - 1 by omega)
 omega
theorem compare_pc (a b : Nat) (ha : (pc a).length ≤ 1000000000) (hb : (pc b).length ≤ 1000000000) : Ev (fun k => decimal_pieces_compare.f k (pc a) (pc b)) (cmpI a b) := by
 unfold decimal_pieces_compare.f
 by_cases hl : (pc a).length = (pc b).length
 ·refine Ev.ite_pos (by omega) ?_
  rw [w64 (by omega) (by omega)]
  have := compare_loop _ _ (pc_ok a) (pc_ok b) hl ha (pc a).length (Nat.le_refl _)
  rw [List.take_length, hl, List.take_length, pv_pc, pv_pc] at this
  rw [hl]
  exact this
 ·refine Ev.ite_neg (by omega) (Ev.val ?_)
  rw [w64 (by omega) (by omega)]
  unfold mn mx cmpI
  by_cases h2 : (pc a).length < (pc b).length
  ·have := pc_len_lt h2
   rw [if_pos (by omega : (a : Int) < b)]
   split <;> split <;> first | rfl | (exfalso; omega) | (congr 1; omega)
  ·have := pc_len_lt (show (pc b).length < (pc a).length by omega)
   rw [if_neg (by omega : ¬ (a : Int) < b), if_neg (by omega : ¬ (a : Int) = b)]
   split <;> split <;> first | rfl | (exfalso; omega) | (congr 1; omega)
theorem back_loop (q : List Int) (hq : okP q) (hql : q.length ≤ 1000000000) (at_ : Nat) (n : Nat) (hn : at_ + q.length < n) (hn2 : n ≤ 3000000000) :
  ∀ (d j : Nat) (p : List Int) (c : Int), q.length + 1 = j + d → okP p → p.length = n → 0 ≤ c → c ≤ 1 →
   ∃ r c2, Ev (fun k => decimal_pieces_back.l0 k p q (at_ : Int) c (j : Int)) r ∧ okP r ∧ r.length = n ∧ 0 ≤ c2 ∧ c2 ≤ 1 ∧
    pv r = pv p + B9 ^ (at_ + j) * (c + pv (q.drop j)) - B9 ^ (at_ + q.length + 1) * c2 ∧ ∀ s, at_ + q.length < s → r.getD s 0 = p.getD s 0 := by
 intro d
 induction d with
 | zero =>
  intro j p c hj hok hlen hc0 hc1
  have hj : j = q.length + 1 := by omega
  subst hj
  refine ⟨p, c, Ev.succ ?_, hok, hlen, hc0, hc1, ?_, fun _ _ => rfl⟩
  ·simp only [decimal_pieces_back.l0]
   exact Ev.ite_neg (by omega) (Ev.val rfl)
  ·rw [List.drop_of_length_le (by omega)]
   simp only [pv, Int.add_zero, ← Nat.add_assoc]
   omega
 | succ d ih =>
  intro j p c hj hok hlen hc0 hc1
  obtain ⟨a0, a1⟩ := okP_getD hok (at_ + j)
  obtain ⟨b0, b1⟩ := okP_getD hq j
  have e1 : (at_ : Int) + (j : Int) = ((at_ + j : Nat) : Int) := by omega
  have hd : pv (q.drop j) = q.getD j 0 + B9 * pv (q.drop (j + 1)) := by
   by_cases h : j < q.length
   ·exact pv_drop q j h
   ·rw [List.drop_of_length_le (by omega), List.drop_of_length_le (by omega), List.getD_eq_getElem?_getD, List.getElem?_eq_none (by omega)]; simp [pv]
  generalize ha : p.getD (at_ + j) 0 = a at *
  generalize hb : q.getD j 0 = b at *
  have hdm := Int.emod_add_mul_ediv (c + a + b) 1000000000
  have hm0 : 0 ≤ (c + a + b) % 1000000000 := Int.emod_nonneg _ (by decide)
  have hm1 : (c + a + b) % 1000000000 < 1000000000 := Int.emod_lt_of_pos _ (by decide)
  have hv0 : 0 ≤ (c + a + b) / 1000000000 := by unfold B9 at *; omega
  have hv1 : (c + a + b) / 1000000000 ≤ 1 := by unfold B9 at *; omega
  obtain ⟨r, c2, h1, h2, h3, h4, h5, h6, h7⟩ := ih (j + 1) (p.set (at_ + j) ((c + a + b) % 1000000000)) ((c + a + b) / 1000000000) (by omega) (okP_set hok hm0 hm1) (by simpa using hlen) hv0 hv1
  refine ⟨r, c2, Ev.succ ?_, h2, h3, h4, h5, ?_, fun s hs => (h7 s hs).trans (getD_set_ne p _ _ _ (by omega))⟩
  ·simp only [decimal_pieces_back.l0]
   rw [w64 (x := (at_ : Int) + (j : Int)) (by omega) (by omega), w64 (x := (j : Int) + 1) (by omega) (by omega), e1, rd_nat, rd_nat, ha, hb, Int.toNat_natCast]
   refine Ev.ite_pos (by omega) (Ev.ite_pos (by omega) (Ev.ite_pos (by omega) ?_))
   rw [wu64 (x := c + a) (by omega) (by unfold B9 at *; omega)]
   by_cases hjl : j < q.length
   ·refine Ev.ite_pos (by omega) (Ev.ite_pos (by omega) ?_)
    rw [wu64 (x := c + a + b) (by omega) (by unfold B9 at *; omega), Int.tmod_eq_emod_of_nonneg (by omega), Int.tdiv_eq_ediv_of_nonneg (by omega), wu64 (x := (c + a + b) / 1000000000) hv0 (by omega)]
    exact h1
   ·refine Ev.ite_neg (by omega) ?_
    have hb0 : b = 0 := by rw [← hb, List.getD_eq_getElem?_getD, List.getElem?_eq_none (by omega)]; rfl
    rw [hb0, Int.add_zero] at h1 hv0 hv1
    rw [Int.tmod_eq_emod_of_nonneg (by omega), Int.tdiv_eq_ediv_of_nonneg (by omega), wu64 (x := (c + a) / 1000000000) hv0 (by omega)]
    exact h1
  ·rw [h6, pv_set _ _ _ (by omega), ha, hd, ← Nat.add_assoc, B9_succ]
   generalize B9 ^ (at_ + j) = X
   generalize B9 ^ (at_ + q.length + 1) * c2 = Y
   generalize pv (q.drop (j + 1)) = Z
   generalize (c + a + b) % 1000000000 = u at *
   generalize (c + a + b) / 1000000000 = v at *
   have hu : u = c + a + b - B9 * v := by unfold B9; omega
   subst hu
   have : X * (c + a + b - B9 * v - a) + X * B9 * (v + Z) = X * (c + (b + B9 * Z)) := by grind
   omega
theorem back_ev {p q : List Int} (hp : okP p) (hq : okP q) (at_ : Nat) (hql : q.length ≤ 1000000000) (hn : at_ + q.length < p.length) (hn2 : p.length ≤ 3000000000) :
  ∃ r c, Ev (fun k => decimal_pieces_back.f k p q (at_ : Int)) r ∧ okP r ∧ r.length = p.length ∧ 0 ≤ c ∧ c ≤ 1 ∧ pv r = pv p + B9 ^ at_ * pv q - B9 ^ (at_ + q.length + 1) * c ∧ ∀ s, at_ + q.length < s → r.getD s 0 = p.getD s 0 := by
 obtain ⟨r, c, h1, h2, h3, h4, h5, h6, h7⟩ := back_loop q hq hql at_ p.length hn hn2 (q.length + 1) 0 p 0 (by omega) hp rfl (by omega) (by omega)
 exact ⟨r, c, h1, h2, h3, h4, h5, by rw [h6]; simp, h7⟩
theorem take_loop (q : List Int) (hq : okP q) (hql : q.length ≤ 1000000000) (g : Int) (hg0 : 0 ≤ g) (hg1 : g < B9) (at_ : Nat) (n : Nat) (hn : at_ + q.length < n) (hn2 : n ≤ 3000000000) :
  ∀ (d j : Nat) (p : List Int) (bo c : Int), q.length + 1 = j + d → okP p → p.length = n → 0 ≤ c → c ≤ g → (d = 0 → c = 0) → (bo = 0 ∨ bo = 1) →
   ∃ r b2, Ev (fun k => decimal_pieces_take.l0 k p q g (at_ : Int) bo c (j : Int)) (decide (b2 > 0), r) ∧ okP r ∧ r.length = n ∧ (b2 = 0 ∨ b2 = 1) ∧
    pv r = pv p - B9 ^ (at_ + j) * (c + bo + g * pv (q.drop j)) + B9 ^ (at_ + q.length + 1) * b2 ∧ ∀ s, at_ + q.length < s → r.getD s 0 = p.getD s 0 := by
 intro d
 induction d with
 | zero =>
  intro j p bo c hj hok hlen hc0 hc1 hcz hbo
  have hj : j = q.length + 1 := by omega
  subst hj
  have hc := hcz rfl
  subst hc
  refine ⟨p, bo, Ev.succ ?_, hok, hlen, hbo, ?_, fun _ _ => rfl⟩
  ·simp only [decimal_pieces_take.l0]
   exact Ev.ite_neg (by omega) (Ev.val rfl)
  ·rw [List.drop_of_length_le (by omega)]
   simp only [pv, Int.add_zero, ← Nat.add_assoc, Int.mul_zero, Int.zero_add]
   omega
 | succ d ih =>
  intro j p bo c hj hok hlen hc0 hc1 hcz hbo
  obtain ⟨a0, a1⟩ := okP_getD hok (at_ + j)
  obtain ⟨b0, b1⟩ := okP_getD hq j
  have e1 : (at_ : Int) + (j : Int) = ((at_ + j : Nat) : Int) := by omega
  have hd : pv (q.drop j) = q.getD j 0 + B9 * pv (q.drop (j + 1)) := by
   by_cases h : j < q.length
   ·exact pv_drop q j h
   ·rw [List.drop_of_length_le (by omega), List.drop_of_length_le (by omega), List.getD_eq_getElem?_getD, List.getElem?_eq_none (by omega)]; simp [pv]
  have hbz : ¬ j < q.length → q.getD j 0 = 0 := fun h => by rw [List.getD_eq_getElem?_getD, List.getElem?_eq_none (by omega)]; rfl
  have hgb0 : 0 ≤ g * q.getD j 0 := Int.mul_nonneg hg0 b0
  have hgb1 : g * q.getD j 0 ≤ g * 999999999 := Int.mul_le_mul_of_nonneg_left (by unfold B9 at *; omega) hg0
  generalize ha : p.getD (at_ + j) 0 = a at *
  generalize hb : q.getD j 0 = b at *
  generalize ht : g * b = t at *
  have hdm := Int.emod_add_mul_ediv (c + t) 1000000000
  have hm0 : 0 ≤ (c + t) % 1000000000 := Int.emod_nonneg _ (by decide)
  have hm1 : (c + t) % 1000000000 < 1000000000 := Int.emod_lt_of_pos _ (by decide)
  have hv0 : 0 ≤ (c + t) / 1000000000 := by unfold B9 at *; omega
  have hv1 : (c + t) / 1000000000 ≤ g := by unfold B9 at *; omega
  have hvz : d = 0 → (c + t) / 1000000000 = 0 := fun h => by
   have : ¬ j < q.length := by omega
   have := hbz this
   subst this
   have : t = 0 := by rw [← ht]; simp
   unfold B9 at *; omega
  have common : ∀ (x : Int) (b2 : Int), 0 ≤ x → x < B9 → (b2 = 0 ∨ b2 = 1) → x = a - (c + t) % 1000000000 - bo + B9 * b2 →
    (∀ r, Ev (fun k => decimal_pieces_take.l0 k (p.set (at_ + j) x) q g (at_ : Int) b2 ((c + t) / 1000000000) ((j : Int) + 1)) r → Ev (fun k => decimal_pieces_take.l0 k p q g (at_ : Int) bo c (j : Int)) r) →
    ∃ r b2, Ev (fun k => decimal_pieces_take.l0 k p q g (at_ : Int) bo c (j : Int)) (decide (b2 > 0), r) ∧ okP r ∧ r.length = n ∧ (b2 = 0 ∨ b2 = 1) ∧
     pv r = pv p - B9 ^ (at_ + j) * (c + bo + g * pv (q.drop j)) + B9 ^ (at_ + q.length + 1) * b2 ∧ ∀ s, at_ + q.length < s → r.getD s 0 = p.getD s 0 := by
   intro x b2 hx0 hx1 hb2 hx he
   obtain ⟨r, b3, h1, h2, h3, h4, h5, h7⟩ := ih (j + 1) (p.set (at_ + j) x) b2 ((c + t) / 1000000000) (by omega) (okP_set hok hx0 hx1) (by simpa using hlen) hv0 hv1 hvz hb2
   refine ⟨r, b3, he _ h1, h2, h3, h4, ?_, fun s hs => (h7 s hs).trans (getD_set_ne p _ _ _ (by omega))⟩
   rw [h5, pv_set _ _ _ (by omega), ha, hd, ← Nat.add_assoc, B9_succ]
   generalize B9 ^ (at_ + j) = X
   generalize B9 ^ (at_ + q.length + 1) * b3 = Y
   generalize pv (q.drop (j + 1)) = Z
   generalize (c + t) % 1000000000 = u at *
   generalize (c + t) / 1000000000 = v at *
   have hu : u = c + t - B9 * v := by unfold B9; omega
   subst hx
   subst hu
   subst ht
   have : X * (a - (c + g * b - B9 * v) - bo + B9 * b2 - a) - X * B9 * (v + b2 + g * Z) = - (X * (c + bo + g * (b + B9 * Z))) := by grind
   omega
  have hbo0 : 0 ≤ bo ∧ bo ≤ 1 := by omega
  have hsz : (c + t) ≤ 999999999 * 1000000000 := by unfold B9 at *; omega
  have hgoal : ∀ (x b2 : Int), (if a - (c + t) % 1000000000 - bo < 0 then x = a - (c + t) % 1000000000 - bo + 1000000000 ∧ b2 = 1 else x = a - (c + t) % 1000000000 - bo ∧ b2 = 0) →
    ∀ r, Ev (fun k => decimal_pieces_take.l0 k (p.set (at_ + j) x) q g (at_ : Int) b2 ((c + t) / 1000000000) ((j : Int) + 1)) r → Ev (fun k => decimal_pieces_take.l0 k p q g (at_ : Int) bo c (j : Int)) r := by
   intro x b2 hx r hr
   refine Ev.succ ?_
   simp only [decimal_pieces_take.l0]
   rw [w64 (x := (at_ : Int) + (j : Int)) (by omega) (by omega), w64 (x := (j : Int) + 1) (by omega) (by omega), e1, rd_nat, rd_nat, ha, hb, Int.toNat_natCast, ht, wu64 (x := t) hgb0 (by unfold B9 at *; omega), wu64 (x := c + t) (by omega) (by omega),
    Int.tmod_eq_emod_of_nonneg (show 0 ≤ c + t by omega), Int.tdiv_eq_ediv_of_nonneg (show 0 ≤ c + t by omega), w64 (x := a) (by omega) (by unfold B9 at *; omega), w64 (x := (c + t) % 1000000000) (by omega) (by omega),
    w64 (x := a - (c + t) % 1000000000) (by omega) (by unfold B9 at *; omega), w64 (x := a - (c + t) % 1000000000 - bo) (by omega) (by unfold B9 at *; omega), wu64 (x := (c + t) / 1000000000) hv0 (by unfold B9 at *; omega)]
   refine Ev.ite_pos (by omega) ?_
   by_cases hjl : j < q.length
   ·refine Ev.ite_pos (by omega) (Ev.ite_pos (by omega) (Ev.ite_pos (by omega) (Ev.ite_pos (by omega) ?_)))
    by_cases hneg : a - (c + t) % 1000000000 - bo < 0
    ·rw [if_pos hneg] at hx
     obtain ⟨rfl, rfl⟩ := hx
     refine Ev.ite_pos hneg ?_
     rw [w64 (x := a - (c + t) % 1000000000 - bo + 1000000000) (by omega) (by omega), wu64 (by omega) (by omega)]
     exact hr
    ·rw [if_neg hneg] at hx
     obtain ⟨rfl, rfl⟩ := hx
     refine Ev.ite_neg hneg ?_
     rw [wu64 (by omega) (by unfold B9 at *; omega)]
     exact hr
   ·have hb0 := hbz hjl
    subst hb0
    have ht0 : t = 0 := by rw [← ht]; simp
    subst ht0
    simp only [Int.add_zero] at *
    refine Ev.ite_neg (by omega) ?_
    rw [Int.tmod_eq_emod_of_nonneg (show 0 ≤ c by omega), Int.tdiv_eq_ediv_of_nonneg (show 0 ≤ c by omega), w64 (x := c % 1000000000) (by omega) (by omega),
     w64 (x := a - c % 1000000000) (by omega) (by unfold B9 at *; omega), w64 (x := a - c % 1000000000 - bo) (by omega) (by unfold B9 at *; omega), wu64 (x := c / 1000000000) hv0 (by unfold B9 at *; omega)]
    refine Ev.ite_pos (by omega) (Ev.ite_pos (by omega) ?_)
    by_cases hneg : a - c % 1000000000 - bo < 0
    ·rw [if_pos hneg] at hx
     obtain ⟨rfl, rfl⟩ := hx
     refine Ev.ite_pos hneg ?_
     rw [w64 (x := a - c % 1000000000 - bo + 1000000000) (by omega) (by omega), wu64 (by omega) (by omega)]
     exact hr
    ·rw [if_neg hneg] at hx
     obtain ⟨rfl, rfl⟩ := hx
     refine Ev.ite_neg hneg ?_
     rw [wu64 (by omega) (by unfold B9 at *; omega)]
     exact hr
  by_cases hneg : a - (c + t) % 1000000000 - bo < 0
  ·exact common (a - (c + t) % 1000000000 - bo + 1000000000) 1 (by omega) (by unfold B9 at *; omega) (.inr rfl) (by unfold B9; omega) (hgoal _ 1 (by rw [if_pos hneg]; exact ⟨rfl, rfl⟩))
  ·exact common (a - (c + t) % 1000000000 - bo) 0 (by omega) (by unfold B9 at *; omega) (.inl rfl) (by unfold B9; omega) (hgoal _ 0 (by rw [if_neg hneg]; exact ⟨rfl, rfl⟩))
theorem take_ev {p q : List Int} (hp : okP p) (hq : okP q) {g : Int} (hg0 : 0 ≤ g) (hg1 : g < B9) (at_ : Nat) (hql : q.length ≤ 1000000000) (hn : at_ + q.length < p.length) (hn2 : p.length ≤ 3000000000) :
  ∃ r b, Ev (fun k => decimal_pieces_take.f k p q g (at_ : Int)) (decide (b > 0), r) ∧ okP r ∧ r.length = p.length ∧ (b = 0 ∨ b = 1) ∧ pv r = pv p - B9 ^ at_ * (g * pv q) + B9 ^ (at_ + q.length + 1) * b ∧ ∀ s, at_ + q.length < s → r.getD s 0 = p.getD s 0 := by
 obtain ⟨r, b, h1, h2, h3, h4, h5, h7⟩ := take_loop q hq hql g hg0 hg1 at_ p.length hn hn2 (q.length + 1) 0 p 0 0 (by omega) hp rfl (by omega) hg0 (by omega) (.inl rfl)
 exact ⟨r, b, h1, h2, h3, h4, by rw [h5]; simp, h7⟩
end Go.Proofs.YtccebdpjdpjgnaaGreatDoor.Q
