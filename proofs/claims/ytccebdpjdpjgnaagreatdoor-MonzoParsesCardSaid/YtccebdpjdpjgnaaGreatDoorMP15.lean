/-
parts of the walks and of the plain laws: QDiv QCut
-/
import Derived.Lib.IndexBytes
import Derived.Lib.LazyBuf
import Derived.Test.YtccebdpjdpjgnaaGreatDoorMP13
import Derived.Test.YtccebdpjdpjgnaaGreatDoorMP14
set_option linter.unusedVariables false
set_option linter.unusedSimpArgs false
section
namespace Go.Proofs.YtccebdpjdpjgnaaGreatDoor.Q
open Go Go.RowKit Sch Go.Lib Go.Proofs.YtccebdpjdpjgnaaGreatDoor.P Go.Proofs.YtccebdpjdpjgnaaGreatDoorW.PrintWords Go.Proofs.YtccebdpjdpjgnaaGreatDoorW.PrintLast Go.Proofs.YtccebdpjdpjgnaaGreatDoorW.PrintMore
theorem scaled_pc (a : Nat) (n : Int) (ha : (pc a).length ≤ 1000000000) (hn0 : 1 ≤ n) (hn1 : n < B9) : Ev (fun k => decimal_pieces_scaled.f k (pc a) n) (pc (a * n.toNat)) := by
 unfold decimal_pieces_scaled.f
 have h1 : stripP [n] = [n] := by have := stripP_snoc (l := []) (x := n) (by omega); simpa using this
 refine Ev.bind (trim_ev 1 [n] rfl (by omega)) ?_
 rw [h1]
 have h2 := times_ev (pc_ok a) (okP_one (by omega) hn1) ha (by simp)
 refine Ev.bindr (Ev.eq h2 ?_) rfl
 rw [pv_pc]
 simp only [pv, Int.mul_zero, Int.add_zero]
 congr 1
 obtain ⟨m, rfl⟩ := Int.eq_ofNat_of_zero_le (show 0 ≤ n by omega)
 rw [Int.toNat_natCast, ← Int.natCast_mul, Int.toNat_natCast]
structure Trial (U V v1 v0 u21 u0 g r : Int) : Prop where
 g0 : 0 ≤ g
 r0 : 0 ≤ r
 sum : g * v1 + r = u21
theorem trial_loop (fa : Int) (a b out : List Int) (n i : Nat) (q : Int) (R : List Int × List Int) (ha : okP a) (hb : okP b) (hbl : b.length = n) (hn2 : 2 ≤ n) (hin : i + n < a.length) (hal : a.length ≤ 2000000000)
  (hv1 : 1 ≤ b.getD (n - 1) 0)
  (hq0 : 0 ≤ q) (hqB : q < B9)
  (hqV : q * (b.getD (n - 1) 0 * B9 + b.getD (n - 2) 0) ≤ (a.getD (i + n) 0 * B9 + a.getD (i + n - 1) 0) * B9 + a.getD (i + n - 2) 0)
  (hk : ∀ g : Int, q ≤ g → g < B9 → g * (b.getD (n - 1) 0 * B9 + b.getD (n - 2) 0) ≤ (a.getD (i + n) 0 * B9 + a.getD (i + n - 1) 0) * B9 + a.getD (i + n - 2) 0 →
   Ev (fun k => decimal_pieces_divide.j3 k fa a b (n : Int) out (i : Int) g) R) :
  ∀ (d : Nat) (g r : Int), g = q + d → 0 ≤ r → g * b.getD (n - 1) 0 + r = a.getD (i + n) 0 * B9 + a.getD (i + n - 1) 0 →
   Ev (fun k => decimal_pieces_divide.l2 k fa a b (n : Int) out (i : Int) g r) R := by
 obtain ⟨u20, u21⟩ := okP_getD ha (i + n)
 obtain ⟨u10, u11⟩ := okP_getD ha (i + n - 1)
 obtain ⟨u00, u01⟩ := okP_getD ha (i + n - 2)
 obtain ⟨v10, v11⟩ := okP_getD hb (n - 1)
 obtain ⟨v00, v01⟩ := okP_getD hb (n - 2)
 have e1 : (n : Int) - 1 = ((n - 1 : Nat) : Int) := by omega
 have e2 : (n : Int) - 2 = ((n - 2 : Nat) : Int) := by omega
 have e3 : (i : Int) + (n : Int) - 2 = ((i + n - 2 : Nat) : Int) := by omega
 generalize hu2 : a.getD (i + n) 0 = u2 at *
 generalize hu1 : a.getD (i + n - 1) 0 = u1 at *
 generalize hu0 : a.getD (i + n - 2) 0 = u0 at *
 generalize hw1 : b.getD (n - 1) 0 = v1 at *
 generalize hw0 : b.getD (n - 2) 0 = v0 at *
 intro d
 induction d with
 | zero =>
  intro g r hg hr0 hs
  have hg : g = q := by omega
  subst hg
  refine Ev.succ ?_
  simp only [decimal_pieces_divide.l2]
  refine Ev.ite_neg (by unfold B9 at *; omega) ?_
  by_cases hr : r < 1000000000
  ·refine Ev.ite_pos hr ?_
   rw [w64 (x := (n : Int) - 2) (by omega) (by omega), w64 (x := (i : Int) + (n : Int)) (by omega) (by omega), w64 (x := (i : Int) + (n : Int) - 2) (by omega) (by omega), e2, e3, rd_nat, rd_nat, hw0, hu0]
   refine Ev.ite_pos (by omega) (Ev.ite_pos (by omega) (Ev.ite_pos (by omega) (Ev.ite_pos (by omega) ?_)))
   have p0 : 0 ≤ g * v0 := Int.mul_nonneg hq0 v00
   have p1 : g * v0 ≤ 999999999 * 999999999 := Int.mul_le_mul (by unfold B9 at *; omega) (by unfold B9 at *; omega) v00 (by decide)
   rw [wu64 p0 (by omega), wu64 (x := r * 1000000000) (by omega) (by omega), wu64 (x := r * 1000000000 + u0) (by omega) (by unfold B9 at *; omega)]
   refine Ev.ite_neg ?_ (hk g (Int.le_refl _) hqB hqV)
   have : g * (v1 * B9 + v0) = (u2 * B9 + u1 - r) * B9 + g * v0 := by rw [← hs]; grind
   have h3 : (u2 * B9 + u1 - r) * B9 = (u2 * B9 + u1) * B9 - r * B9 := Int.sub_mul ..
   rw [this, h3] at hqV
   unfold B9 at *
   omega
  ·exact Ev.ite_neg hr (hk g (Int.le_refl _) hqB hqV)
 | succ d ih =>
  intro g r hg hr0 hs
  have hg1 : 1 ≤ g := by omega
  have hgv : g * 1 ≤ g * v1 := Int.mul_le_mul_of_nonneg_left hv1 (by omega)
  have hgB : g ≤ u2 * B9 + u1 := by omega
  have hg64 : g < 1000000000000000000 := by unfold B9 at *; omega
  have hr64 : r < 1000000000000000000 := by unfold B9 at *; omega
  have next : Ev (fun k => decimal_pieces_divide.l2 k fa a b (n : Int) out (i : Int) (g - 1) (r + v1)) R := by
   refine ih (g - 1) (r + v1) (by omega) (by omega) ?_
   rw [Int.sub_mul, Int.one_mul]; omega
  refine Ev.succ ?_
  simp only [decimal_pieces_divide.l2]
  rw [w64 (x := (n : Int) - 1) (by omega) (by omega), e1, rd_nat, hw1, wu64 (x := g - 1) (by omega) (by omega), wu64 (x := r + v1) (by omega) (by unfold B9 at *; omega)]
  by_cases hge : g ≥ 1000000000
  ·exact Ev.ite_pos hge (Ev.ite_pos (by omega) (Ev.ite_pos (by omega) next))
  ·refine Ev.ite_neg hge ?_
   by_cases hr : r < 1000000000
   ·refine Ev.ite_pos hr ?_
    rw [w64 (x := (n : Int) - 2) (by omega) (by omega), w64 (x := (i : Int) + (n : Int)) (by omega) (by omega), w64 (x := (i : Int) + (n : Int) - 2) (by omega) (by omega), e2, e3, rd_nat, rd_nat, hw0, hu0]
    refine Ev.ite_pos (by omega) (Ev.ite_pos (by omega) (Ev.ite_pos (by omega) (Ev.ite_pos (by omega) ?_)))
    have p0 : 0 ≤ g * v0 := Int.mul_nonneg (by omega) v00
    have p1 : g * v0 ≤ 999999999 * 999999999 := Int.mul_le_mul (by omega) (by unfold B9 at *; omega) v00 (by decide)
    rw [wu64 p0 (by omega), wu64 (x := r * 1000000000) (by omega) (by omega), wu64 (x := r * 1000000000 + u0) (by omega) (by unfold B9 at *; omega)]
    by_cases ht : g * v0 > r * 1000000000 + u0
    ·exact Ev.ite_pos ht (Ev.ite_pos (by omega) (Ev.ite_pos (by omega) next))
    ·refine Ev.ite_neg ht (hk g (by omega) (by unfold B9; omega) ?_)
     have : g * (v1 * B9 + v0) = (u2 * B9 + u1 - r) * B9 + g * v0 := by rw [← hs]; grind
     have h3 : (u2 * B9 + u1 - r) * B9 = (u2 * B9 + u1) * B9 - r * B9 := Int.sub_mul ..
     rw [this, h3]
     unfold B9 at *
     omega
   ·refine Ev.ite_neg hr (hk g (by omega) (by unfold B9; omega) ?_)
    have : g * (v1 * B9 + v0) = (u2 * B9 + u1 - r) * B9 + g * v0 := by rw [← hs]; grind
    have h3 : (u2 * B9 + u1 - r) * B9 = (u2 * B9 + u1) * B9 - r * B9 := Int.sub_mul ..
    have p1 : g * v0 ≤ 999999999 * 999999999 := Int.mul_le_mul (by omega) (by unfold B9 at *; omega) v00 (by decide)
    rw [this, h3]
    unfold B9 at *
    omega
theorem pv_zeros : ∀ l : List Int, (∀ s, l.getD s 0 = 0) → pv l = 0
 | [], _ => rfl
 | x :: l, h => by
  have h0 : x = 0 := by have := h 0; simpa using this
  have h1 := pv_zeros l (fun s => by have := h (s + 1); simpa using this)
  simp only [pv, h0, h1]; rfl
theorem lt_of_zeros {l : List Int} (h : okP l) (t : Nat) (hz : ∀ s, t ≤ s → l.getD s 0 = 0) : pv l < B9 ^ t := by
 by_cases ht : t ≤ l.length
 ·have h1 := pv_take_drop l t ht
  have h2 := pv_lt (okP_take h t)
  rw [List.length_take, Nat.min_eq_left ht] at h2
  have h3 : pv (l.drop t) = 0 := pv_zeros _ (fun s => by
   rw [List.getD_eq_getElem?_getD, List.getElem?_drop, ← List.getD_eq_getElem?_getD]
   exact hz _ (by omega))
  rw [h3] at h1
  omega
 ·have h1 := pv_lt h
  have h2 := B9_mono (show l.length ≤ t by omega)
  omega
theorem zeros_of_lt {l : List Int} (h : okP l) (t : Nat) (hl : pv l < B9 ^ t) : ∀ s, t ≤ s → l.getD s 0 = 0 := fun s hs => zero_above h (by have := B9_mono hs; omega)
theorem pv_top3 (l : List Int) (m : Nat) (h : m + 3 = l.length) : pv l = ((l.getD (m + 2) 0 * B9 + l.getD (m + 1) 0) * B9 + l.getD m 0) * B9 ^ m + pv (l.take m) := by
 have h0 := pv_take_drop l m (by omega)
 have h1 := pv_drop l m (by omega)
 have h2 := pv_drop l (m + 1) (by omega)
 have h3 := pv_drop l (m + 2) (by omega)
 have h4 : l.drop (m + 3) = [] := List.drop_of_length_le (by omega)
 rw [show m + 2 + 1 = m + 3 from rfl, h4] at h3
 rw [h0, h1, show m + 1 + 1 = m + 2 from rfl] at *
 rw [h2, h3]
 simp only [pv, Int.mul_zero, Int.add_zero]
 grind
theorem pv_top2 (l : List Int) (m : Nat) (h : m + 2 = l.length) : pv l = (l.getD (m + 1) 0 * B9 + l.getD m 0) * B9 ^ m + pv (l.take m) := by
 have h0 := pv_take_drop l m (by omega)
 have h1 := pv_drop l m (by omega)
 have h2 := pv_drop l (m + 1) (by omega)
 have h4 : l.drop (m + 2) = [] := List.drop_of_length_le (by omega)
 rw [show m + 1 + 1 = m + 2 from rfl, h4] at h2
 rw [h0, h1, h2]
 simp only [pv, Int.mul_zero, Int.add_zero]
 grind
theorem divide_loop (fa : Int) (b : List Int) (n L : Nat) (A0 : Int) (Rq Rr : List Int) (hb : okP b) (hbl : b.length = n) (hn2 : 2 ≤ n) (hnl : n ≤ 500000000) (hL : L ≤ 1000000000) (hv1 : 1 ≤ b.getD (n - 1) 0)
  (hfin : ∀ a out : List Int, okP a → a.length = L → okP out → out.length = L - n → pv a = A0 - pv out * pv b → pv a < pv b →
   Ev (fun k => (decimal_pieces_trim.f k a).bind fun t235 => ((decimal_pieces_small.f k t235 fa).bind fun bt238 => ((decimal_pieces_trim.f k out).bind fun t242 => (some (t242, bt238.1))))) (Rq, Rr)) :
  ∀ (i : Nat) (a out : List Int), i + n ≤ L → okP a → a.length = L → okP out → out.length = L - n → pv a = A0 - B9 ^ i * (pv (out.drop i) * pv b) → pv (a.drop i) < pv b →
   Ev (fun k => decimal_pieces_divide.l1 k fa a b (n : Int) out ((i : Int) - 1)) (Rq, Rr) := by
 intro i
 induction i with
 | zero =>
  intro a out hi ha hal ho hol hv hr
  refine Ev.succ ?_
  simp only [decimal_pieces_divide.l1]
  refine Ev.ite_neg (by omega) (hfin a out ha hal ho hol ?_ ?_)
  ·rw [hv]; simp
  ·simpa using hr
 | succ i ih =>
  intro a out hi ha hal ho hol hv hr
  obtain ⟨u20, u21⟩ := okP_getD ha (i + n)
  obtain ⟨u10, u11⟩ := okP_getD ha (i + n - 1)
  obtain ⟨u00, u01⟩ := okP_getD ha (i + n - 2)
  obtain ⟨v10, v11⟩ := okP_getD hb (n - 1)
  have e0 : ((i + 1 : Nat) : Int) - 1 = (i : Int) := by omega
  have e1 : (n : Int) - 1 = ((n - 1 : Nat) : Int) := by omega
  have e2 : (i : Int) + (n : Int) = ((i + n : Nat) : Int) := by omega
  have e3 : (((i + n : Nat)) : Int) - 1 = ((i + n - 1 : Nat) : Int) := by omega
  
  have hD0 := pv_nonneg hb
  have hbn := pv_lt hb
  rw [hbl] at hbn
  have hz : ∀ s, i + n + 1 ≤ s → a.getD s 0 = 0 := fun s hs => by
   have := zeros_of_lt (okP_drop ha (i + 1)) n (by omega) (s - (i + 1)) (by omega)
   rw [List.getD_eq_getElem?_getD, List.getElem?_drop, ← List.getD_eq_getElem?_getD, show i + 1 + (s - (i + 1)) = s by omega] at this
   exact this
  have hAd := pv_drop a i (by omega)
  obtain ⟨ai0, ai1⟩ := okP_getD ha i
  have hA0 := pv_nonneg (okP_drop ha i)
  have hAB : pv (a.drop i) < B9 * pv b := by rw [hAd]; unfold B9 at *; omega
  have hDpos : 0 < pv b := by have := pv_nonneg (okP_drop ha (i + 1)); omega
  
  have hq0 : 0 ≤ pv (a.drop i) / pv b := Int.ediv_nonneg hA0 hD0
  have hqB : pv (a.drop i) / pv b < B9 := Int.ediv_lt_of_lt_mul hDpos hAB
  have hqr := Int.emod_add_mul_ediv (pv (a.drop i)) (pv b)
  have hr0 : 0 ≤ pv (a.drop i) % pv b := Int.emod_nonneg _ (by omega)
  have hr1 : pv (a.drop i) % pv b < pv b := Int.emod_lt_of_pos _ hDpos
  
  have hAn : pv (a.drop i) = pv ((a.drop i).take (n + 1)) := by
   have h1 := pv_take_drop (a.drop i) (n + 1) (by rw [List.length_drop]; omega)
   have h2 : pv ((a.drop i).drop (n + 1)) = 0 := pv_zeros _ (fun s => by
    rw [List.drop_drop, List.getD_eq_getElem?_getD, List.getElem?_drop, ← List.getD_eq_getElem?_getD]
    exact hz _ (by omega))
   rw [h2] at h1; omega
  have hgd : ∀ s, s < n + 1 → ((a.drop i).take (n + 1)).getD s 0 = a.getD (i + s) 0 := fun s hs => by
   rw [List.getD_eq_getElem?_getD, List.getElem?_take_of_lt hs, List.getElem?_drop, ← List.getD_eq_getElem?_getD]
  have hAt := pv_top3 ((a.drop i).take (n + 1)) (n - 2) (by rw [List.length_take, List.length_drop]; omega)
  rw [← hAn, hgd _ (by omega), hgd _ (by omega), hgd _ (by omega), show i + (n - 2 + 2) = i + n by omega, show i + (n - 2 + 1) = i + n - 1 by omega, show i + (n - 2) = i + n - 2 by omega] at hAt
  have hDt := pv_top2 b (n - 2) (by omega)
  rw [show n - 2 + 1 = n - 1 by omega] at hDt
  have hP := B9_pos (n - 2)
  have hA'0 := pv_nonneg (okP_take (okP_take (okP_drop ha i) (n + 1)) (n - 2))
  have hA'1 := pv_lt (okP_take (okP_take (okP_drop ha i) (n + 1)) (n - 2))
  rw [List.length_take, List.length_take, List.length_drop, Nat.min_eq_left (by omega)] at hA'1
  have hD'0 := pv_nonneg (okP_take hb (n - 2))
  have hD'1 := pv_lt (okP_take hb (n - 2))
  rw [List.length_take, Nat.min_eq_left (by omega)] at hD'1
  have hqD : pv (a.drop i) / pv b * pv b ≤ pv (a.drop i) := by rw [Int.mul_comm]; omega
  have hqV := knuth_ge hP hAt hA'1 hDt hD'0 hq0 hqD
  have hA' := hAt
  
  have hnext : ∀ a2 : List Int, okP a2 → a2.length = L → pv a2 = pv a - B9 ^ i * (pv (a.drop i) / pv b * pv b) →
    Ev (fun k => decimal_pieces_divide.l1 k fa a2 b (n : Int) (out.set i (pv (a.drop i) / pv b)) ((i : Int) - 1)) (Rq, Rr) := by
   intro a2 g1 g2 g3
   refine ih a2 _ (by omega) g1 g2 (okP_set ho hq0 hqB) (by simpa using hol) ?_ ?_
   ·rw [g3, hv, pv_set_drop out i _ (by omega), B9_succ]
    grind
   ·have t1 := pv_take_drop a i (by omega)
    have t2 := pv_take_drop a2 i (by omega)
    have t3 := pv_nonneg (okP_take ha i)
    have t4 := pv_lt (okP_take ha i)
    have t5 := pv_nonneg (okP_take g1 i)
    have t6 := pv_lt (okP_take g1 i)
    rw [List.length_take, Nat.min_eq_left (by omega)] at t4 t6
    have hBi := B9_pos i
    generalize pv (a2.drop i) = y at *
    generalize pv (a.take i) = x at *
    generalize pv (a2.take i) = z at *
    generalize pv (a.drop i) = A at *
    generalize A / pv b = Q at *
    generalize A % pv b = R at *
    generalize pv b = D at *
    generalize B9 ^ i = P at *
    have h1 : P * y + z = P * R + x := by
     have : A = R + D * Q := by omega
     subst this
     have : P * (R + D * Q) = P * R + P * (Q * D) := by grind
     omega
    have h2 : y = R := by
     rcases Int.lt_trichotomy y R with h | h | h
     ·have := Int.mul_le_mul_of_nonneg_left (show y + 1 ≤ R from h) (Int.le_of_lt hBi)
      rw [Int.mul_add] at this; omega
     ·exact h
     ·have := Int.mul_le_mul_of_nonneg_left (show R + 1 ≤ y from h) (Int.le_of_lt hBi)
      rw [Int.mul_add] at this; omega
    omega
  refine Ev.succ ?_
  simp only [decimal_pieces_divide.l1, e0]
  rw [w64 (x := (i : Int) + (n : Int)) (by omega) (by omega), e2, w64 (x := ((i + n : Nat) : Int) - 1) (by omega) (by omega), w64 (x := (n : Int) - 1) (by omega) (by omega), e1, e3, rd_nat, rd_nat, rd_nat]
  refine Ev.ite_pos (by omega) (Ev.ite_pos (by omega) (Ev.ite_pos (by omega) (Ev.ite_pos (by omega) (Ev.ite_pos (by omega) (Ev.ite_pos (by omega) (Ev.ite_pos (by omega) (Ev.ite_neg (by omega) ?_)))))))
  rw [wu64 (x := a.getD (i + n) 0 * 1000000000) (by omega) (by unfold B9 at *; omega), wu64 (x := a.getD (i + n) 0 * 1000000000 + a.getD (i + n - 1) 0) (by omega) (by unfold B9 at *; omega)]
  rw [Int.tmod_eq_emod_of_nonneg (by omega), Int.tdiv_eq_ediv_of_nonneg (by omega)]
  have hs0 : 0 ≤ a.getD (i + n) 0 * 1000000000 + a.getD (i + n - 1) 0 := by omega
  have hg0 : 0 ≤ (a.getD (i + n) 0 * 1000000000 + a.getD (i + n - 1) 0) / b.getD (n - 1) 0 := Int.ediv_nonneg hs0 v10
  have hgl : (a.getD (i + n) 0 * 1000000000 + a.getD (i + n - 1) 0) / b.getD (n - 1) 0 ≤ a.getD (i + n) 0 * 1000000000 + a.getD (i + n - 1) 0 := Int.ediv_le_self _ hs0
  rw [wu64 hg0 (by unfold B9 at *; omega)]
  have hgm := Int.emod_add_mul_ediv (a.getD (i + n) 0 * 1000000000 + a.getD (i + n - 1) 0) (b.getD (n - 1) 0)
  have hm0 : 0 ≤ (a.getD (i + n) 0 * 1000000000 + a.getD (i + n - 1) 0) % b.getD (n - 1) 0 := Int.emod_nonneg _ (by omega)
  have hm1 : (a.getD (i + n) 0 * 1000000000 + a.getD (i + n - 1) 0) % b.getD (n - 1) 0 < b.getD (n - 1) 0 := Int.emod_lt_of_pos _ (by omega)
  have hqg : pv (a.drop i) / pv b ≤ (a.getD (i + n) 0 * 1000000000 + a.getD (i + n - 1) 0) / b.getD (n - 1) 0 := by
   obtain ⟨w0, w1⟩ := okP_getD hb (n - 2)
   generalize pv (a.drop i) / pv b = Q at *
   have h1 : Q * b.getD (n - 1) 0 * B9 ≤ Q * (b.getD (n - 1) 0 * B9 + b.getD (n - 2) 0) := by
    rw [Int.mul_assoc]
    exact Int.mul_le_mul_of_nonneg_left (by omega) hq0
   have h2 : Q * b.getD (n - 1) 0 * B9 < (a.getD (i + n) 0 * B9 + a.getD (i + n - 1) 0 + 1) * B9 := by rw [Int.add_mul]; omega
   have h3 : Q * b.getD (n - 1) 0 < a.getD (i + n) 0 * B9 + a.getD (i + n - 1) 0 + 1 := Int.lt_of_mul_lt_mul_right h2 (by decide)
   exact (Int.le_ediv_iff_mul_le (by omega)).2 (by unfold B9 at *; omega)
  refine trial_loop fa a b out n i (pv (a.drop i) / pv b) (Rq, Rr) ha hb hbl hn2 (by omega) (by omega) hv1 hq0 hqB hqV ?_ ((a.getD (i + n) 0 * 1000000000 + a.getD (i + n - 1) 0) / b.getD (n - 1) 0 - pv (a.drop i) / pv b).toNat _ _ (by omega) hm0 (by rw [Int.mul_comm]; unfold B9; omega)
  intro g hg1 hg2 hgU
  have hgq : g = pv (a.drop i) / pv b ∨ g = pv (a.drop i) / pv b + 1 := by
   by_cases h1 : 1 ≤ g
   ·have h2 := knuth_le (g := g) hP hAt hA'0 hDt hD'1 h1 (by
     have : 1 * B9 ≤ b.getD (n - 1) 0 * B9 := Int.mul_le_mul_of_nonneg_right hv1 (by decide)
     have := (okP_getD hb (n - 2)).1
     omega) hgU
    have h3 : g - 1 ≤ pv (a.drop i) / pv b := (Int.le_ediv_iff_mul_le hDpos).2 h2
    omega
   ·omega
  obtain ⟨r, bo, g1, g2, g3, g4, g5, g6⟩ := take_ev (p := a) (q := b) ha hb (g := g) (by omega) hg2 i (by omega) (by omega) (by omega)
  rw [hbl] at g5 g6
  have hrz : ∀ s, i + n + 1 ≤ s → r.getD s 0 = 0 := fun s hs => (g6 s (by omega)).trans (hz s hs)
  have hrlt := lt_of_zeros g2 (i + n + 1) hrz
  have hrn := pv_nonneg g2
  have t1 := pv_take_drop a i (by omega)
  have t3 := pv_nonneg (okP_take ha i)
  have t4 := pv_lt (okP_take ha i)
  rw [List.length_take, Nat.min_eq_left (by omega)] at t4
  have hBi := B9_pos i
  
  have hleft : pv a - B9 ^ i * (pv (a.drop i) / pv b * pv b) = pv (a.take i) + B9 ^ i * (pv (a.drop i) % pv b) := by
   rw [t1]
   have : B9 ^ i * pv (a.drop i) = B9 ^ i * (pv (a.drop i) / pv b * pv b) + B9 ^ i * (pv (a.drop i) % pv b) := by
    rw [← Int.mul_add]; congr 1; rw [Int.mul_comm (pv (a.drop i) / pv b)]; omega
   omega
  have hleft0 : 0 ≤ pv (a.take i) + B9 ^ i * (pv (a.drop i) % pv b) := by
   have := Int.mul_nonneg (Int.le_of_lt hBi) hr0; omega
  refine Ev.succ ?_
  simp only [decimal_pieces_divide.j3]
  refine Ev.bind g1 ?_
  rcases hgq with hgq | hgq
  ·have hbo : bo = 0 := by
    rcases g4 with h | h
    ·exact h
    ·rw [h, hgq, hleft] at g5; omega
   rw [hbo, hgq, hleft] at g5
   subst hbo
   refine Ev.ite_neg (by simp) (Ev.ite_pos (by omega) (Ev.ite_pos (by omega) ?_))
   rw [Int.toNat_natCast, w64 (by omega) (by omega), hgq]
   exact hnext r g2 (by omega) (by rw [g5, hleft]; omega)
  ·have hbo : bo = 1 := by
    rcases g4 with h | h
    ·exfalso
     rw [h, hgq] at g5
     have h1 : B9 ^ i * ((pv (a.drop i) / pv b + 1) * pv b) = B9 ^ i * (pv (a.drop i) / pv b * pv b) + B9 ^ i * pv b := by rw [Int.add_mul, Int.one_mul, Int.mul_add]
     have h2 : B9 ^ i * (pv (a.drop i) % pv b) + B9 ^ i ≤ B9 ^ i * pv b := by
      have := Int.mul_le_mul_of_nonneg_left (show pv (a.drop i) % pv b + 1 ≤ pv b from hr1) (Int.le_of_lt hBi)
      rw [Int.mul_add] at this; omega
     rw [h1] at g5
     omega
    ·exact h
   subst hbo
   refine Ev.ite_pos (by simp) ?_
   obtain ⟨r2, c, f1, f2, f3, f4, f5, f6, f7⟩ := back_ev (p := r) (q := b) g2 hb i (by omega) (by omega) (by omega)
   rw [hbl] at f6 f7
   have hr2z : ∀ s, i + n + 1 ≤ s → r2.getD s 0 = 0 := fun s hs => (f7 s (by omega)).trans (hrz s hs)
   have hr2lt := lt_of_zeros f2 (i + n + 1) hr2z
   have h1 : B9 ^ i * ((pv (a.drop i) / pv b + 1) * pv b) = B9 ^ i * (pv (a.drop i) / pv b * pv b) + B9 ^ i * pv b := by rw [Int.add_mul, Int.one_mul, Int.mul_add]
   rw [hgq, h1] at g5
   have hc : c = 1 := by
    rcases (show c = 0 ∨ c = 1 by omega) with h | h
    ·exfalso
     rw [h] at f6
     omega
    ·exact h
   refine Ev.bind f1 (Ev.ite_pos (by omega) (Ev.ite_pos (by omega) ?_))
   rw [Int.toNat_natCast, w64 (by omega) (by omega), wu64 (x := g - 1) (by omega) (by unfold B9 at *; omega), hgq, show pv (a.drop i) / pv b + 1 - 1 = pv (a.drop i) / pv b by omega]
   refine hnext r2 f2 (by omega) ?_
   rw [hc] at f6
   omega
theorem pc_len_le {n t : Nat} (h : (n : Int) < B9 ^ t) : (pc n).length ≤ t := by
 by_cases hn : n = 0
 ·subst hn; rw [pc_zero]; simp
 ·have h1 := pc_ge hn
  apply Nat.le_of_not_lt
  intro hc
  have := B9_mono (show t ≤ (pc n).length - 1 by omega)
  omega
theorem pc_len_mono {a b : Nat} (h : a ≤ b) : (pc a).length ≤ (pc b).length := by
 apply Nat.le_of_not_lt
 intro hc
 have := pc_len_lt hc
 omega
theorem pc_top {n : Nat} (h : n ≠ 0) : 1 ≤ (pc n).getD ((pc n).length - 1) 0 := by
 obtain ⟨m, x, e, hx⟩ := pc_last h
 have ho := pc_ok n
 rw [e] at ho ⊢
 rw [okP_append, okP_cons] at ho
 have : (m ++ [x]).getD ((m ++ [x]).length - 1) 0 = x := by
  rw [show (m ++ [x]).length - 1 = m.length by simp]; exact getD_append_last m x
 rw [this]
 have := ho.2.1.1
 omega
theorem divide_ev (a b : Nat) (ha : (pc a).length ≤ 100000) (hb2 : 2 ≤ (pc b).length) (hab : b ≤ a) :
  Ev (fun k => decimal_pieces_divide.f k (pc a) (pc b)) (pc (a / b), pc (a % b)) := by
 have hb0 : b ≠ 0 := by rintro rfl; rw [pc_zero] at hb2; simp at hb2
 have hbl : (pc b).length ≤ 100000 := Nat.le_trans (pc_len_mono hab) ha
 have ht1 := pc_top hb0
 obtain ⟨_, ht2⟩ := okP_getD (pc_ok b) ((pc b).length - 1)
 unfold decimal_pieces_divide.f
 have e1 : ((pc b).length : Int) - 1 = (((pc b).length - 1 : Nat) : Int) := by omega
 rw [e1, w64 (by omega) (by omega), rd_nat]
 generalize (pc b).getD ((pc b).length - 1) 0 = top at *
 rw [wu64 (x := top + 1) (by omega) (by unfold B9 at *; omega), Int.tdiv_eq_ediv_of_nonneg (by omega)]
 have hf1 : 1 ≤ 1000000000 / (top + 1) := (Int.le_ediv_iff_mul_le (by omega)).2 (by unfold B9 at *; omega)
 have hf2 : 1000000000 / (top + 1) < B9 := Int.ediv_lt_of_lt_mul (by omega) (by unfold B9; omega)
 rw [wu64 (x := 1000000000 / (top + 1)) (by omega) (by unfold B9 at *; omega)]
 generalize 1000000000 / (top + 1) = f at *
 refine Ev.ite_pos (by omega) (Ev.ite_pos (by omega) (Ev.ite_neg (by omega) ?_))
 obtain ⟨F, rfl⟩ := Int.eq_ofNat_of_zero_le (show 0 ≤ f by omega)
 have hF : 1 ≤ F := by omega
 have haF : a ≤ a * F := Nat.le_mul_of_pos_right _ hF
 have hbF : b ≤ b * F := Nat.le_mul_of_pos_right _ hF
 have l1 := pc_len_mono haF
 have l2 := pc_len_mono hbF
 have hlt : ∀ x : Nat, (pc (x * F)).length ≤ (pc x).length + 1 := fun x => pc_len_le (by
  have h1 := pc_lt x
  rw [B9_succ, Int.natCast_mul]
  have h2 := Int.mul_le_mul_of_nonneg_right (Int.le_of_lt h1) (show (0 : Int) ≤ (F : Int) by omega)
  have h3 := Int.mul_lt_mul_of_pos_left hf2 (B9_pos (pc x).length)
  omega)
 have l3 := hlt a
 have l4 := hlt b
 have hbF0 : b * F ≠ 0 := by omega
 refine Ev.bind (scaled_pc a F (by omega) hf1 hf2) ?_
 rw [Int.toNat_natCast]
 refine Ev.ite_pos (by omega) (Ev.bind (scaled_pc b F (by omega) hf1 hf2) ?_)
 rw [Int.toNat_natCast]
 refine Ev.succ ?_
 have hL : (pc (a * F) ++ [0]).length = (pc (a * F)).length + 1 := by simp
 simp only [decimal_pieces_divide.l0, hL]
 refine Ev.ite_neg (by omega) ?_
 have l5 : (pc (b * F)).length ≤ (pc (a * F)).length := pc_len_mono (Nat.mul_le_mul_right _ hab)
 have e2 : (((pc (a * F)).length + 1 : Nat) : Int) - ((pc (b * F)).length : Int) = (((pc (a * F)).length + 1 - (pc (b * F)).length : Nat) : Int) := by omega
 rw [e2, w64 (by omega) (by omega)]
 refine Ev.ite_pos (by omega) (Ev.ite_pos (by omega) ?_)
 rw [Int.toNat_natCast, w64 (by omega) (by omega)]
 have hok : okP (pc (a * F) ++ [0]) := okP_append.2 ⟨pc_ok _, okP_one (by omega) (by decide)⟩
 have hpv : pv (pc (a * F) ++ [0]) = (a * F : Nat) := by rw [pv_append, pv_pc]; simp [pv]
 have hbF1 := pc_ge hbF0
 refine divide_loop F (pc (b * F)) (pc (b * F)).length ((pc (a * F)).length + 1) ((a * F : Nat) : Int) _ _ (pc_ok _) rfl (by omega) (by omega) (by omega) (pc_top hbF0) ?_ _ _ _ (by omega) hok hL (okP_replicate _) (by simp) ?_ ?_
 ·intro x out hx1 hx2 ho1 ho2 hv hlt
  rw [pv_pc] at hv hlt
  have hx0 := pv_nonneg hx1
  have ho0 := pv_nonneg ho1
  obtain ⟨q, hq⟩ := Int.eq_ofNat_of_zero_le ho0
  obtain ⟨r, hr⟩ := Int.eq_ofNat_of_zero_le hx0
  have h1 : a * F = r + b * F * q := by
   rw [hq, hr] at hv
   have : ((a * F : Nat) : Int) = ((r + b * F * q : Nat) : Int) := by
    rw [Int.natCast_add, Int.natCast_mul (b * F) q, Int.mul_comm ((b * F : Nat) : Int)]; omega
   exact Int.ofNat_inj.1 this
  have h2 : r < b * F := by rw [hr] at hlt; omega
  have hq2 : q = a / b := by
   have h3 : (a * F) / (b * F) = q := by
    rw [h1, Nat.add_mul_div_left _ _ (by omega), Nat.div_eq_of_lt h2, Nat.zero_add]
   rw [← h3, Nat.mul_div_mul_right _ _ (by omega)]
  have hr2 : r = a % b * F := by
   have h3 : (a * F) % (b * F) = r := by
    rw [h1, Nat.add_mul_mod_self_left, Nat.mod_eq_of_lt h2]
   rw [← h3, Nat.mul_mod_mul_right]
  refine Ev.bind (trim_pc hx1 (by omega)) ?_
  rw [hr, Int.toNat_natCast]
  have l6 := hlt
  have l7 : (pc r).length ≤ 1000000000 := Nat.le_trans (pc_len_mono (Nat.le_of_lt h2)) (by omega)
  refine Ev.bind (small_ev (pc_ok r) hf1 (Int.le_of_lt hf2) l7) ?_
  refine Ev.bind (trim_pc ho1 (by omega)) (Ev.val ?_)
  rw [pv_pc, hq, Int.toNat_natCast, hq2, hr2]
  congr 3
  rw [← Int.natCast_ediv, Int.toNat_natCast, Nat.mul_div_cancel _ hF]
 ·rw [List.drop_eq_nil_of_le (by simp), hpv]
  simp [pv]
 ·have e3 : (pc (a * F) ++ [0]).drop ((pc (a * F)).length + 1 - (pc (b * F)).length) = (pc (a * F)).drop ((pc (a * F)).length + 1 - (pc (b * F)).length) ++ [0] := by
   rw [List.drop_append_of_le_length (by omega)]
  rw [e3, pv_append, pv_pc]
  have h1 := pv_lt (okP_drop (pc_ok (a * F)) ((pc (a * F)).length + 1 - (pc (b * F)).length))
  rw [List.length_drop, show (pc (a * F)).length - ((pc (a * F)).length + 1 - (pc (b * F)).length) = (pc (b * F)).length - 1 by omega] at h1
  simp only [pv, Int.mul_zero, Int.add_zero]
  omega
end Go.Proofs.YtccebdpjdpjgnaaGreatDoor.Q
end
section
namespace Go.Proofs.YtccebdpjdpjgnaaGreatDoor.Q
open Go.Lib hiding bytesOf bytesOf_length
open Go Go.RowKit Sch Go.Proofs.YtccebdpjdpjgnaaGreatDoor.P Go.Proofs.YtccebdpjdpjgnaaGreatDoorW.PrintWords Go.Proofs.YtccebdpjdpjgnaaGreatDoorW.PrintLast Go.Proofs.YtccebdpjdpjgnaaGreatDoorW.PrintMore
theorem B9_ten (k : Nat) : B9 ^ k = ((10 ^ (9 * k) : Nat) : Int) := by
 induction k with
 | zero => rfl
 | succ k ih => rw [B9_succ, ih, Nat.mul_succ, Nat.pow_add]; rw [Int.natCast_mul]; rfl
theorem cut_inner (s : ByteArray) (r : List Int) (x3 : List Int) (at_ : Int) (e : ByteArray) (he : ∀ c ∈ e.data.toList, isD c) (hl : e.size ≤ 9) (hx : x3.length < 17592186044416)
  (hk : Ev (fun k => decimal_cut.l0 k s (x3 ++ [(dv e.data.toList : Int)]) (wrap64 (at_ - 9))) r) :
  ∀ (d j : Nat), e.size = j + d → Ev (fun k => decimal_cut.l1 k s x3 at_ ((dv (e.data.toList.take j) : Nat) : Int) (bytesOf e) ((bytesOf e).length : Int) (j : Int)) r := by
 intro d
 induction d with
 | zero =>
  intro j hj
  refine Ev.succ ?_
  simp only [decimal_cut.l1, bytesOf_length]
  refine Ev.ite_neg (by omega) (Ev.ite_pos hx ?_)
  rw [List.take_of_length_le (by rw [data_length]; omega)]
  exact hk
 | succ d ih =>
  intro j hj
  have hjl : j < e.data.toList.length := by rw [data_length]; omega
  refine Ev.succ ?_
  simp only [decimal_cut.l1, bytesOf_length]
  refine Ev.ite_pos (by omega) (Ev.ite_pos (by omega) (Ev.ite_pos (by omega) ?_))
  rw [rd_bytes e j (by omega)]
  have hd := he _ (List.getElem_mem hjl)
  unfold isD at hd
  have hv := dv_lt (e.data.toList.take j) (fun c hc => he c (List.mem_of_mem_take hc))
  rw [List.length_take, Nat.min_eq_left (by omega)] at hv
  have hp : 10 ^ j ≤ 10 ^ 8 := Nat.pow_le_pow_right (by decide) (by omega)
  have e1 : (((e.data.toList[j]'hjl).toNat : Int) - 48) % 256 = ((e.data.toList[j]'hjl).toNat - 48 : Nat) := by omega
  rw [e1, w64 (by omega) (by omega), wu64 (x := 10 * _) (by omega) (by omega), wu64 (by omega) (by omega)]
  have e2 : e.data.toList.take (j + 1) = e.data.toList.take j ++ [e.data.toList[j]'hjl] := List.take_succ_eq_append_getElem hjl
  have := ih (j + 1) (by omega)
  rw [e2, dv_snoc, bytesOf_length] at this
  simpa using this
theorem cut_loop (s : ByteArray) (hs : ∀ c ∈ s.data.toList, isD c) (hsz : s.size ≤ 1000000000) : ∀ (at_ : Nat) (x3 : List Int), at_ ≤ s.size → okP x3 → x3.length * 9 + at_ = s.size → pv x3 = dv (s.data.toList.drop at_) →
  Ev (fun k => decimal_cut.l0 k s x3 (at_ : Int)) (pc (dv s.data.toList)) := by
 intro at_
 induction at_ using Nat.strongRecOn with
 | _ at_ ih =>
  intro x3 hat hok hlen hpv
  have hend : ∀ (x3 : List Int) (n : Int), okP x3 → x3.length ≤ 1000000000000 → n ≤ 0 → pv x3 = dv s.data.toList → Ev (fun k => decimal_cut.l0 k s x3 n) (pc (dv s.data.toList)) := by
   intro x3 n hok hl hn hv
   refine Ev.succ ?_
   simp only [decimal_cut.l0]
   refine Ev.ite_neg (by omega) (Ev.bindr (Ev.eq (trim_pc hok hl) ?_) rfl)
   rw [hv, Int.toNat_natCast]
  by_cases h0 : at_ = 0
  ·subst h0
   exact hend x3 _ hok (by omega) (by omega) (by rw [hpv]; simp)
  ·
   refine Ev.succ ?_
   have hlo : mx 0 (wrap64 ((at_ : Int) - 9)) = ((at_ - 9 : Nat) : Int) := by
    rw [w64 (by omega) (by omega)]; unfold mx; split <;> omega
   simp only [decimal_cut.l0, hlo, Int.toNat_natCast]
   refine Ev.ite_pos (by omega) (Ev.ite_pos (by omega) (Ev.ite_pos (by omega) (Ev.ite_pos (by omega) (Ev.ite_pos ?_ ?_))))
   ·rw [ByteArray.size_extract]; omega
   ·refine Ev.bindc rfl ?_
    have hex : (s.extract (at_ - 9) at_).data.toList = (s.data.toList.drop (at_ - 9)).take (at_ - (at_ - 9)) := by
     exact extract_data s _ _
    have hsize : (s.extract (at_ - 9) at_).size = at_ - (at_ - 9) := by rw [ByteArray.size_extract]; omega
    have hed : ∀ c ∈ (s.extract (at_ - 9) at_).data.toList, isD c := fun c hc => by
     rw [hex] at hc
     exact hs c (List.mem_of_mem_drop (List.mem_of_mem_take hc))
    have hpl := dv_lt _ hed
    rw [data_length, hsize] at hpl
    have hp9 : 10 ^ (at_ - (at_ - 9)) ≤ 10 ^ 9 := Nat.pow_le_pow_right (by decide) (by omega)
    have hok2 : okP (x3 ++ [((dv (s.extract (at_ - 9) at_).data.toList : Nat) : Int)]) := okP_append.2 ⟨hok, okP_one (by omega) (by unfold B9; omega)⟩
    have hpv2 : pv (x3 ++ [((dv (s.extract (at_ - 9) at_).data.toList : Nat) : Int)]) = dv (s.data.toList.drop (at_ - 9)) := by
     rw [pv_append, hpv]
     have e1 : s.data.toList.drop (at_ - 9) = (s.extract (at_ - 9) at_).data.toList ++ s.data.toList.drop at_ := by
      rw [hex]
      have := (List.take_append_drop (at_ - (at_ - 9)) (s.data.toList.drop (at_ - 9))).symm
      rw [List.drop_drop, show at_ - 9 + (at_ - (at_ - 9)) = at_ by omega] at this
      exact this
     rw [e1, dv_append, List.length_drop, data_length, B9_ten, show 9 * x3.length = s.size - at_ by omega]
     simp only [pv, Int.mul_zero, Int.add_zero]
     rw [Int.natCast_add, Int.natCast_mul, Int.mul_comm]
     omega
    have := cut_inner s (pc (dv s.data.toList)) x3 (at_ : Int) (s.extract (at_ - 9) at_) hed (by omega) (by omega) ?_ _ 0 (Nat.zero_add _).symm
    ·simpa [dv] using this
    ·rw [w64 (by omega) (by omega)]
     by_cases h9 : 9 ≤ at_
     ·have := ih (at_ - 9) (by omega) _ (by omega) hok2 (by simp; omega) hpv2
      rw [show ((at_ - 9 : Nat) : Int) = (at_ : Int) - 9 by omega] at this
      exact this
     ·refine hend _ _ hok2 (by simp; omega) (by omega) ?_
      rw [hpv2, show at_ - 9 = 0 by omega]; rfl
theorem ns_toList (n : Nat) : (ns n).data.toList = decDigits n := rfl
theorem cut_ev (n : Nat) (h : nDigits n ≤ 100000) : Ev (fun k => decimal_cut.f k (ns n)) (pc n) := by
 have hs := ns_size n
 unfold decimal_cut.f
 rw [w64 (x := ((ns n).size : Int) / 9) (by omega) (by omega), w64 (x := ((ns n).size : Int) / 9 + 1) (by omega) (by omega)]
 refine Ev.ite_pos (by omega) (Ev.ite_pos (by omega) ?_)
 have := cut_loop (ns n) (by rw [ns_toList]; exact dec_isD n) (by omega) (ns n).size [] (Nat.le_refl _) okP_nil (by simp) (by rw [List.drop_of_length_le (by rw [data_length]; omega)]; rfl)
 rw [ns_toList, dv_dec] at this
 exact this
theorem reverse_loop : ∀ (n : Nat) (A M B : List Int), M.length = n → A.length = B.length → A.length + M.length + B.length ≤ 1000000000000 →
  Ev (fun k => slices_Reverse_byte_byte.l0 k (A ++ M ++ B) (A.length : Int) (((A.length + M.length : Nat) : Int) - 1)) (A ++ M.reverse ++ B) := by
 intro n
 induction n using Nat.strongRecOn with
 | _ n ih =>
  intro A M B hM hAB hb
  refine Ev.succ ?_
  simp only [slices_Reverse_byte_byte.l0]
  match M, hM with
  | [], _ => exact Ev.ite_neg (by simp; omega) (Ev.val (by simp))
  | [x], _ => exact Ev.ite_neg (by simp <;> omega) (Ev.val (by simp))
  | x :: y :: M, hM =>
   obtain ⟨M', z, hz⟩ : ∃ M' z, y :: M = M' ++ [z] := ⟨(y :: M).dropLast, (y :: M).getLast (by simp), (List.dropLast_concat_getLast _).symm⟩
   rw [hz] at hM hb ⊢
   simp only [List.length_cons, List.length_append, List.length_nil] at hM hb
   have hL : (A ++ (x :: (M' ++ [z])) ++ B).length = A.length + (M'.length + 2) + B.length := by simp; omega
   have e1 : (((A.length + (x :: (M' ++ [z])).length : Nat)) : Int) - 1 = ((A.length + M'.length + 1 : Nat) : Int) := by simp; omega
   rw [e1]
   refine Ev.ite_pos (by omega) (Ev.ite_pos (by omega) (Ev.ite_pos (by omega) (Ev.ite_pos (by omega) (Ev.ite_pos (by omega) ?_))))
   rw [rd_nat, rd_nat, Int.toNat_natCast, Int.toNat_natCast, w64 (by omega) (by omega), w64 (by omega) (by omega)]
   have g1 : (A ++ (x :: (M' ++ [z])) ++ B).getD A.length 0 = x := by simp [List.getD_eq_getElem?_getD]
   have g2 : (A ++ (x :: (M' ++ [z])) ++ B).getD (A.length + M'.length + 1) 0 = z := by
    rw [show A ++ (x :: (M' ++ [z])) ++ B = (A ++ (x :: M')) ++ (z :: B) by simp]
    rw [show A.length + M'.length + 1 = (A ++ (x :: M')).length by simp; omega]
    simp [List.getD_eq_getElem?_getD]
   rw [g1, g2]
   have s1 : (A ++ (x :: (M' ++ [z])) ++ B).set A.length z = A ++ (z :: (M' ++ [z])) ++ B := by
    simp
   rw [s1]
   have s2 : (A ++ (z :: (M' ++ [z])) ++ B).set (A.length + M'.length + 1) x = (A ++ [z]) ++ M' ++ (x :: B) := by
    rw [show A ++ (z :: (M' ++ [z])) ++ B = (A ++ (z :: M')) ++ (z :: B) by simp]
    rw [show A.length + M'.length + 1 = (A ++ (z :: M')).length by simp; omega]
    rw [List.set_append_right _ _ (Nat.le_refl _)]
    simp
   rw [s2]
   have := ih M'.length (by omega) (A ++ [z]) M' (x :: B) rfl (by simp; omega) (by simp; omega)
   refine Ev.congr (fun k => ?_) (Ev.eq this (by simp))
   congr 1
   ·simp
   ·simp; omega
theorem reverse_ev (l : List Int) (h : l.length ≤ 1000000000000) : Ev (fun k => slices_Reverse_byte_byte.f k l) l.reverse := by
 unfold slices_Reverse_byte_byte.f
 rw [w64 (by omega) (by omega)]
 have := reverse_loop l.length [] l [] rfl rfl (by simpa using h)
 simpa using this
def digR (n : Nat) (k : Nat) : List Int := (List.range k).map fun t => (48 : Int) + ((n / 10 ^ t % 10 : Nat) : Int)
theorem digR_length (n k : Nat) : (digR n k).length = k := by simp [digR]
theorem digR_succ (n k : Nat) : digR n (k + 1) = digR n k ++ [48 + ((n / 10 ^ k % 10 : Nat) : Int)] := by simp [digR, List.range_succ]
theorem digR_cons (n k : Nat) : digR n (k + 1) = (48 + ((n % 10 : Nat) : Int)) :: digR (n / 10) k := by
 unfold digR
 rw [List.range_succ_eq_map]
 simp only [List.map_cons, List.map_map, Nat.pow_zero, Nat.div_one]
 congr 1
 apply List.map_congr_left
 intro t _
 simp only [Function.comp_apply, Nat.succ_eq_add_one, Nat.pow_succ]
 rw [Nat.mul_comm, Nat.div_div_eq_div_mul]
theorem digR_dec (n : Nat) : (digR n (nDigits n)).reverse = (decDigits n).map fun b => (b.toNat : Int) := by
 induction n using Nat.strongRecOn with
 | _ n ih =>
  by_cases h : n < 10
  ·rw [nDigits_small h, dec_small h]
   simp only [digR, List.map_cons, List.map_nil]
   rw [digit_toNat h]
   simp; omega
  ·rw [nDigits_big h, dec_big h, digR_cons, List.reverse_cons, ih _ (by omega), List.map_append]
   simp only [List.map_cons, List.map_nil]
   rw [digit_toNat (by omega)]
   rfl
theorem pc_getD (i : Nat) : ∀ n, (pc n).getD i 0 = ((n / 10 ^ (9 * i) % 1000000000 : Nat) : Int) := by
 induction i with
 | zero =>
  intro n
  by_cases h : n = 0
  ·subst h; rw [pc_zero]; rfl
  ·rw [pc_pos h]; simp
 | succ i ih =>
  intro n
  by_cases h : n = 0
  ·subst h; rw [pc_zero]; simp
  ·rw [pc_pos h, List.getD_cons_succ, ih, Nat.div_div_eq_div_mul, show 9 * (i + 1) = 9 * i + 9 by omega, Nat.pow_add, Nat.mul_comm 1000000000]
theorem text_loop (n : Nat) (hn : n ≠ 0) (hb : nDigits n ≤ 1000000) (hl : (pc n).length ≤ 1000000) :
  ∀ (d i j : Nat) (x5 : Int), (pc n).length * 10 = i * 10 + j + d → j ≤ 9 → i < (pc n).length → 9 * i + j ≤ nDigits n → x5 = ((n / 10 ^ (9 * i + j) % 10 ^ (9 - j) : Nat) : Int) →
   Ev (fun k => decimal_pieces_text.l1 k (pc n) (digR n (9 * i + j)) (i : Int) x5 (j : Int) (pc n) ((pc n).length : Int) (i : Int)) (ns n) := by
 have hfin : ∀ i : Nat, (pc n).length ≤ i + 1 → i ≤ 1000000 → Ev (fun k => decimal_pieces_text.l0 k (pc n) (digR n (nDigits n)) (pc n) ((pc n).length : Int) ((i : Int) + 1)) (ns n) := by
  intro i hi hi2
  refine Ev.succ ?_
  simp only [decimal_pieces_text.l0]
  refine Ev.ite_neg (by omega) (Ev.bindr (reverse_ev _ (by rw [digR_length]; omega)) ?_)
  rw [digR_dec, Lib.Lz.strOfNums_map]
  rfl
 have hlt := pc_lt n
 rw [B9_ten] at hlt
 have hlt2 : n < 10 ^ (9 * (pc n).length) := by omega
 have hge := pc_ge hn
 rw [B9_ten] at hge
 have hge2 : 10 ^ (9 * ((pc n).length - 1)) ≤ n := by omega
 intro d
 induction d using Nat.strongRecOn with
 | _ d ih =>
  intro i j x5 hd hj hi hlow hx5
  subst hx5
  have hmod : n / 10 ^ (9 * i + j) % 10 ^ (9 - j) < 10 ^ (9 - j) := Nat.mod_lt _ (Nat.pow_pos (by decide))
  have hp9 : 10 ^ (9 - j) ≤ 10 ^ 9 := Nat.pow_le_pow_right (by decide) (by omega)
  refine Ev.succ ?_
  simp only [decimal_pieces_text.l1]
  by_cases hj9 : j < 9
  ·refine Ev.ite_pos (by omega) ?_
   rw [w64 (x := (i : Int) + 1) (by omega) (by omega), w64 (x := (j : Int) + 1) (by omega) (by omega)]
   have hstep : 9 * i + (j + 1) ≤ nDigits n → Ev (fun k => (if (digR n (9 * i + j)).length < 140737488355328 then (decimal_pieces_text.l1 k (pc n) (digR n (9 * i + j) ++ [(IntKind.u64.wrap (48 + (Int.tmod ((n / 10 ^ (9 * i + j) % 10 ^ (9 - j) : Nat) : Int) 10))) % 256]) (i : Int) (IntKind.u64.wrap (Int.tdiv ((n / 10 ^ (9 * i + j) % 10 ^ (9 - j) : Nat) : Int) 10)) ((j : Int) + 1) (pc n) ((pc n).length : Int) (i : Int)) else (none))) (ns n) := by
    intro hlow2
    have e1 : 10 ^ (9 - j) = 10 ^ (9 - (j + 1)) * 10 := by rw [← Nat.pow_succ]; congr 1; omega
    have m1 : n / 10 ^ (9 * i + j) % 10 ^ (9 - j) % 10 = n / 10 ^ (9 * i + j) % 10 := by
     rw [e1]; exact Nat.mod_mod_of_dvd _ (Nat.dvd_mul_left _ _)
    have m2 : n / 10 ^ (9 * i + j) % 10 ^ (9 - j) / 10 = n / 10 ^ (9 * i + (j + 1)) % 10 ^ (9 - (j + 1)) := by
     rw [e1, Nat.mul_comm (10 ^ (9 - (j + 1))) 10, Nat.mod_mul_right_div_self, Nat.div_div_eq_div_mul, ← Nat.pow_succ]
     rfl
    have := ih (d - 1) (by omega) i (j + 1) _ (by omega) (by omega) hi hlow2 rfl
    rw [Int.tmod_eq_emod_of_nonneg (by omega), Int.tdiv_eq_ediv_of_nonneg (by omega), ← m2] at *
    refine Ev.ite_pos (by rw [digR_length]; omega) ?_
    have e2 : ((n / 10 ^ (9 * i + j) % 10 ^ (9 - j) : Nat) : Int) % 10 = ((n / 10 ^ (9 * i + j) % 10 : Nat) : Int) := by rw [← m1]; omega
    rw [e2, wu64 (x := 48 + _) (by omega) (by omega), wu64 (by omega) (by omega)]
    rw [show (48 + ((n / 10 ^ (9 * i + j) % 10 : Nat) : Int)) % 256 = 48 + ((n / 10 ^ (9 * i + j) % 10 : Nat) : Int) by omega, ← digR_succ]
    exact this
   by_cases hlast : i + 1 < (pc n).length
   ·refine Ev.ite_pos (by omega) (hstep ?_)
    have h1 : 10 ^ (9 * i + (j + 1)) ≤ n := Nat.le_trans (Nat.pow_le_pow_right (by decide) (by omega)) hge2
    have h2 := lt_pow_nDigits n
    apply Nat.le_of_not_lt
    intro hc
    have := Nat.pow_le_pow_right (show 0 < 10 by decide) (show nDigits n ≤ 9 * i + (j + 1) by omega)
    omega
   ·refine Ev.ite_neg (by omega) ?_
    have hil : (pc n).length = i + 1 := by omega
    have hsm : n / 10 ^ (9 * i + j) % 10 ^ (9 - j) = n / 10 ^ (9 * i + j) := by
     apply Nat.mod_eq_of_lt
     apply Nat.div_lt_of_lt_mul
     rw [← Nat.pow_add, show 9 * i + j + (9 - j) = 9 * (pc n).length by omega]
     exact hlt2
    by_cases hz : n / 10 ^ (9 * i + j) = 0
    ·refine Ev.ite_neg (by rw [hsm, hz]; simp) ?_
     have h1 : n < 10 ^ (9 * i + j) := by
      rcases Nat.div_eq_zero_iff.1 hz with h | h
      ·exact absurd h (by have := Nat.pow_pos (n := 9 * i + j) (show 0 < 10 by decide); omega)
      ·exact h
     have h0 : 1 ≤ 9 * i + j := by
      apply Nat.one_le_iff_ne_zero.2
      intro h0
      rw [h0] at h1
      simp at h1
      omega
     have h2 := nd_le h1 h0
     have h3 : 9 * i + j = nDigits n := by omega
     rw [h3]
     exact hfin i (by omega) (by omega)
    ·refine Ev.ite_pos (by rw [hsm]; omega) (hstep ?_)
     have h1 : 10 ^ (9 * i + j) ≤ n := by
      apply Nat.le_of_not_lt
      intro hc
      exact hz (Nat.div_eq_of_lt hc)
     have h2 := lt_pow_nDigits n
     apply Nat.lt_of_not_le
     intro hc
     have := Nat.pow_le_pow_right (show 0 < 10 by decide) (show nDigits n ≤ 9 * i + j from hc)
     omega
  ·have hj : j = 9 := by omega
   subst hj
   refine Ev.ite_neg (by omega) ?_
   rw [w64 (by omega) (by omega)]
   by_cases hlast : i + 1 < (pc n).length
   ·refine Ev.succ ?_
    simp only [decimal_pieces_text.l0]
    refine Ev.ite_pos (by omega) (Ev.ite_pos (by omega) (Ev.ite_pos (by omega) ?_))
    have e1 : (i : Int) + 1 = ((i + 1 : Nat) : Int) := by omega
    rw [e1, rd_nat, pc_getD]
    have h1 : 10 ^ (9 * i + 9) ≤ n := Nat.le_trans (Nat.pow_le_pow_right (by decide) (by omega)) hge2
    have h2 := lt_pow_nDigits n
    have h3 : 9 * (i + 1) + 0 ≤ nDigits n := by
     apply Nat.le_of_not_lt
     intro hc
     have := Nat.pow_le_pow_right (show 0 < 10 by decide) (show nDigits n ≤ 9 * i + 9 by omega)
     omega
    exact ih (d - 1) (by omega) (i + 1) 0 _ (by omega) (by omega) hlast h3 rfl
   ·have h1 : nDigits n ≤ 9 * i + 9 := nd_le (by rw [show 9 * i + 9 = 9 * (pc n).length by omega]; exact hlt2) (by omega)
    rw [show 9 * i + 9 = nDigits n by omega]
    exact hfin i (by omega) (by omega)
end Go.Proofs.YtccebdpjdpjgnaaGreatDoor.Q
end
