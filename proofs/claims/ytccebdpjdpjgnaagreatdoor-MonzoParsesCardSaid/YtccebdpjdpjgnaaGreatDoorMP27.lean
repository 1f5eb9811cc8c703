/-
parts of the walks and of the plain laws: QPow 
-/
import Derived.Test.YtccebdpjdpjgnaaGreatDoorMP19
import Derived.Test.YtccebdpjdpjgnaaGreatDoorMP26
set_option linter.unusedVariables false
set_option linter.unusedSimpArgs false
section
namespace Go.Proofs.YtccebdpjdpjgnaaGreatDoor.Q
open Go.Lib hiding bytesOf bytesOf_length
open Go Go.RowKit Sch Go.Proofs.YtccebdpjdpjgnaaGreatDoor.P Go.Proofs.YtccebdpjdpjgnaaGreatDoorW.PrintWords Go.Proofs.YtccebdpjdpjgnaaGreatDoorW.PrintLast Go.Proofs.YtccebdpjdpjgnaaGreatDoorW.PrintMore
theorem bits_and1 (x : Nat) (h : x < 1000000) : Go.bits .and .i64 (x : Int) 1 = ((x % 2 : Nat) : Int) := by
 have h1 : (BitVec.ofInt 64 (x : Int)).toNat = x := by
  rw [BitVec.ofInt_natCast, BitVec.toNat_ofNat]; exact Nat.mod_eq_of_lt (by omega)
 show IntKind.i64.wrap ((BitVec.ofInt 64 (x : Int) &&& BitVec.ofInt 64 (1 : Int)).toNat : Int) = _
 rw [i64_w]
 rw [BitVec.toNat_and, h1, show (BitVec.ofInt 64 (1 : Int)).toNat = 1 from rfl, Nat.and_one_is_mod, w64 (by omega) (by omega)]
theorem nd_pow (b n : Nat) : nDigits (b ^ n) ≤ n * nDigits b + 1 := by
 induction n with
 | zero => rw [Nat.pow_zero, nDigits_small (by decide)]; omega
 | succ n ih =>
  rw [Nat.pow_succ]
  have := nd_mul (b ^ n) b
  rw [Nat.succ_mul]
  rcases Nat.eq_zero_or_pos n with h | h
  ·subst h; simp
  ·have h3 : nDigits (b ^ n * b) ≤ n * nDigits b + nDigits b + 1 := by
    have := nd_mul (b ^ n) b
    omega
   exact h3
theorem power_loop (B : Nat) (hB : nDigits B ≤ 1000000) : ∀ (n x y : Nat), n < 1000000 → 1 ≤ x → 1 ≤ y → x * y ^ n = B →
  (nDigits B ≤ 20000) →
  Ev (fun k => decimal_Power.l0 k (n : Int) (pc x) (pc y)) (ns B, 0) := by
 intro n
 induction n using Nat.strongRecOn with
 | _ n ih =>
  intro x y hn hx hy he hd
  have hle : ∀ z : Nat, z ≤ B → (pc z).length ≤ 1000000000 := fun z hz => by
   have h1 := pc_len_nd (n := z)
   have h2 := nd_mono hz
   omega
  refine Ev.succ ?_
  simp only [decimal_Power.l0]
  by_cases h0 : n = 0
  ·subst h0
   have e : x = B := by simpa using he
   subst e
   refine Ev.ite_neg (by omega) (Ev.bindr (text_ev x hB) ?_)
   rw [ns_size, if_neg (by omega)]
  ·refine Ev.ite_pos (by omega) ?_
   rw [bits_and1 n hn]
   have hyn : 1 ≤ y ^ (n - 1) := Nat.one_le_pow _ _ hy
   have hxy : x * y ≤ B := by
    rw [← he, show n = n - 1 + 1 by omega, Nat.pow_succ, Nat.mul_comm (y ^ (n - 1)), ← Nat.mul_assoc]
    exact Nat.le_mul_of_pos_right _ hyn
   have hxB : x ≤ B := Nat.le_trans (Nat.le_mul_of_pos_right _ hy) hxy
   have hyB : y ≤ B := Nat.le_trans (Nat.le_mul_of_pos_left _ hx) hxy
   have hdiv : (n : Int) / 2 = ((n / 2 : Nat) : Int) := by omega
   have hsq : n > 1 → y ^ n = (y * y) ^ (n / 2) * y ^ (n % 2) := fun _ => by
    rw [← Nat.pow_two, ← Nat.pow_mul, ← Nat.pow_add, Nat.div_add_mod]
   rw [hdiv]
   by_cases hodd : n % 2 = 1
   ·refine Ev.ite_pos (by omega) (Ev.bind (times_pc x y (hle _ hxB) (hle _ hyB)) ?_)
    by_cases h1 : n > 1
    ·refine Ev.ite_pos (by omega) (Ev.bind (times_pc y y (hle _ hyB) (hle _ hyB)) ?_)
     refine ih (n / 2) (by omega) (x * y) (y * y) (by omega) (Nat.mul_pos hx hy) (Nat.mul_pos hy hy) ?_ hd
     rw [← he, hsq h1, hodd, Nat.pow_one, Nat.mul_assoc, Nat.mul_comm y]
    ·have h2 : n = 1 := by omega
     subst h2
     refine Ev.ite_neg (by omega) ?_
     refine ih 0 (by omega) (x * y) y (by omega) (Nat.mul_pos hx hy) hy ?_ hd
     rw [← he]; simp
   ·refine Ev.ite_neg (by omega) (Ev.ite_pos (by omega) (Ev.bind (times_pc y y (hle _ hyB) (hle _ hyB)) ?_))
    refine ih (n / 2) (by omega) x (y * y) (by omega) hx (Nat.mul_pos hy hy) ?_ hd
    rw [← he, hsq (by omega), show n % 2 = 0 by omega, Nat.pow_zero, Nat.mul_one]
theorem bl_small {b : Nat} (h2 : 2 ≤ b) (h : b ≤ 97) : 2 ≤ Lib.bitLen b ∧ Lib.bitLen b ≤ 7 := by
 have hf := Lib.bitLenAux_bounds 64 b (Nat.lt_of_le_of_lt h (by decide)) (by omega)
 have e : Lib.bitLenAux 64 b = Lib.bitLen b := rfl
 rw [e] at hf
 generalize Lib.bitLen b = t at *
 constructor
 ·apply Nat.le_of_not_lt
  intro hc
  have := Nat.pow_le_pow_right (show 0 < 2 by decide) (show t ≤ 1 by omega)
  omega
 ·apply Nat.le_of_not_lt
  intro hc
  have := Nat.pow_le_pow_right (show 0 < 2 by decide) (show 7 ≤ t - 1 by omega)
  omega
theorem len64_small {b : Nat} (h : b < 18446744073709551616) : bits_Len64.f (b : Int) = some ((Lib.bitLen b : Nat) : Int) := by
 unfold bits_Len64.f
 rw [if_pos ⟨by omega, by omega⟩, Int.toNat_natCast]
theorem bits_small {b : Nat} (h2 : 2 ≤ b) (h : b ≤ 97) : ∃ t : Nat, decimal_Bits.f (ns b) = some (t : Int) ∧ 2 ≤ t ∧ t ≤ 7 := by
 refine ⟨Lib.bitLen b, ?_, (bl_small h2 h).1, (bl_small h2 h).2⟩
 unfold decimal_Bits.f
 rw [small_ns (by omega), Option.bind_some]
 exact (if_pos rfl).trans (len64_small (by omega))
theorem power_ev (b n : Nat) (h2 : 2 ≤ b) (h : b ≤ 97) (hn : n ≤ 5000) : Ev (fun k => decimal_Power.f k (ns b) (n : Int)) (ns (b ^ n), 0) := by
 have hd := nd_pow b n
 have hb2 : nDigits b ≤ 2 := nd_le (by omega) (by decide)
 have hd2 : n * nDigits b ≤ n * 2 := Nat.mul_le_mul_left _ hb2
 unfold decimal_Power.f
 refine Ev.ite_neg (by omega) ?_
 by_cases h0 : n = 0
 ·subst h0
  refine Ev.ite_pos rfl (Ev.succ ?_)
  simp only [decimal_Power.j0]
  exact Ev.ite_pos (by simp) (Ev.val (by rw [ns1]; rfl))
 ·refine Ev.ite_neg (by omega) (Ev.succ ?_)
  simp only [decimal_Power.j0]
  have hne : ((ns b).toList == ([49] : List UInt8)) = false := by
   rw [Bool.eq_false_iff]; intro e; rw [beq_iff_eq, ns_eq1] at e; omega
  rw [hne]
  refine Ev.ite_neg (by simp) (Ev.ite_neg (by rw [ns_eq0]; omega) ?_)
  obtain ⟨t, ht, t2, t7⟩ := bits_small h2 h
  refine Ev.bindc ht ?_
  rw [w64 (x := (t : Int) - 1) (by omega) (by omega)]
  have hq : 11073 ≤ Int.tdiv (66439 : Int) ((t : Int) - 1) := by
   rw [Int.tdiv_eq_ediv_of_nonneg (by omega)]
   exact (Int.le_ediv_iff_mul_le (by omega)).2 (by omega)
  have hq2 : Int.tdiv (66439 : Int) ((t : Int) - 1) ≤ 66439 := by
   rw [Int.tdiv_eq_ediv_of_nonneg (by omega)]
   exact Int.ediv_le_self _ (by omega)
  rw [w64 (by omega) (by omega)]
  refine Ev.ite_neg (by omega) (Ev.ite_neg (by omega) (Ev.bind (cut_ev b (by omega)) ?_))
  have h1 : pc 1 = ([1] : List Int) := by rw [pc_pos (by decide), show 1 / 1000000000 = 0 by decide, pc_zero]; rfl
  have := power_loop (b ^ n) (by omega) n 1 b (by omega) (by omega) (by omega) (by simp) (by omega)
  rw [h1] at this
  exact this
end Go.Proofs.YtccebdpjdpjgnaaGreatDoor.Q
end
section
namespace Sch
def expo (p n : Nat) : Nat := if _h : 2 ≤ p ∧ 1 ≤ n ∧ n % p = 0 then expo p (n / p) + 1 else 0
termination_by n
decreasing_by exact Nat.div_lt_self (by omega) (by omega)
def rest (p n : Nat) : Nat := if _h : 2 ≤ p ∧ 1 ≤ n ∧ n % p = 0 then rest p (n / p) else n
termination_by n
decreasing_by exact Nat.div_lt_self (by omega) (by omega)
theorem expo_yes {p n : Nat} (h1 : 2 ≤ p) (h2 : 1 ≤ n) (h3 : n % p = 0) : expo p n = expo p (n / p) + 1 := by rw [expo, dif_pos ⟨h1, h2, h3⟩]
theorem expo_no {p n : Nat} (h : n % p ≠ 0) : expo p n = 0 := by rw [expo, dif_neg (by omega)]
theorem rest_yes {p n : Nat} (h1 : 2 ≤ p) (h2 : 1 ≤ n) (h3 : n % p = 0) : rest p n = rest p (n / p) := by rw [rest, dif_pos ⟨h1, h2, h3⟩]
theorem rest_no {p n : Nat} (h : n % p ≠ 0) : rest p n = n := by rw [rest, dif_neg (by omega)]
theorem expo_rest_pow {p m : Nat} (hp : 2 ≤ p) (hm : m % p ≠ 0) : ∀ k, expo p (p ^ k * m) = k ∧ rest p (p ^ k * m) = m := by
 intro k
 have hm1 : 1 ≤ m := by
  rcases Nat.eq_zero_or_pos m with rfl | h
  ·simp at hm
  ·exact h
 induction k with
 | zero => rw [Nat.pow_zero, Nat.one_mul]; exact ⟨expo_no hm, rest_no hm⟩
 | succ k ih =>
  have e : p ^ (k + 1) * m = p * (p ^ k * m) := by rw [Nat.pow_succ, Nat.mul_comm (p ^ k) p, Nat.mul_assoc]
  have h1 : 1 ≤ p ^ (k + 1) * m := Nat.mul_pos (Nat.pow_pos (by omega)) hm1
  have h2 : p ^ (k + 1) * m % p = 0 := by rw [e]; exact Nat.mul_mod_right _ _
  have h3 : p ^ (k + 1) * m / p = p ^ k * m := by rw [e]; exact Nat.mul_div_cancel_left _ (by omega)
  rw [expo_yes hp h1 h2, rest_yes hp h1 h2, h3, ih.1, ih.2]
  exact ⟨rfl, rfl⟩
theorem expo_rest (p : Nat) (hp : 2 ≤ p) : ∀ n, 1 ≤ n → n = p ^ expo p n * rest p n ∧ rest p n % p ≠ 0 := by
 intro n
 induction n using Nat.strongRecOn with
 | _ n ih =>
  intro hn
  by_cases h : n % p = 0
  ·have h1 : n / p < n := Nat.div_lt_self (by omega) (by omega)
   have h2 : 1 ≤ n / p := Nat.div_pos (Nat.le_of_dvd (by omega) (Nat.dvd_of_mod_eq_zero h)) (by omega)
   obtain ⟨e1, e2⟩ := ih _ h1 h2
   rw [expo_yes hp hn h, rest_yes hp hn h]
   refine ⟨?_, e2⟩
   rw [Nat.pow_succ, Nat.mul_assoc, Nat.mul_comm p, ← Nat.mul_assoc, ← e1]
   exact (Nat.div_mul_cancel (Nat.dvd_of_mod_eq_zero h)).symm
  ·rw [expo_no h, rest_no h]; exact ⟨by simp, h⟩
theorem rest_pos {p n : Nat} (hp : 2 ≤ p) (hn : 1 ≤ n) : 1 ≤ rest p n := by
 have := (expo_rest p hp n hn).2
 rcases Nat.eq_zero_or_pos (rest p n) with e | e
 ·rw [e] at this; simp at this
 ·exact e
theorem rest_le {p n : Nat} (hp : 2 ≤ p) (hn : 1 ≤ n) : rest p n ≤ n := by
 have h := (expo_rest p hp n hn).1
 have : 1 ≤ p ^ expo p n := Nat.one_le_pow _ _ (by omega)
 conv => rhs; rw [h]
 exact Nat.le_mul_of_pos_left _ this
theorem expo_lt {p n : Nat} (hp : 2 ≤ p) (hn : 1 ≤ n) : 2 ^ expo p n ≤ n := by
 have h := (expo_rest p hp n hn).1
 have h1 : 2 ^ expo p n ≤ p ^ expo p n := Nat.pow_le_pow_left hp _
 have h2 := rest_pos hp hn
 have h3 : p ^ expo p n * 1 ≤ p ^ expo p n * rest p n := Nat.mul_le_mul_left _ h2
 rw [← h] at h3
 omega
def numL : List Nat → List Int → Nat
 | p :: ps, x :: xs => p ^ x.toNat * numL ps xs
 | _, _ => 1
def denL : List Nat → List Int → Nat
 | p :: ps, x :: xs => p ^ (-x).toNat * denL ps xs
 | _, _ => 1
def Apart : List Nat → Prop
 | [] => True
 | p :: ps => 2 ≤ p ∧ (∀ q ∈ ps, Nat.Coprime p q) ∧ Apart ps
theorem numL_cop {p : Nat} : ∀ (ps : List Nat) (xs : List Int), (∀ q ∈ ps, Nat.Coprime p q) → Nat.Coprime p (numL ps xs)
 | [], _, _ => by simp [numL]
 | _ :: _, [], _ => by simp [numL]
 | q :: ps, x :: xs, h => by
  rw [numL]
  exact Nat.Coprime.mul_right (Nat.Coprime.pow_right _ (h q (by simp))) (numL_cop ps xs fun r hr => h r (by simp [hr]))
theorem denL_neg : ∀ (ps : List Nat) (xs : List Int), denL ps xs = numL ps (xs.map fun x => -x)
 | [], _ => by simp [numL, denL]
 | _ :: _, [] => by simp [numL, denL]
 | q :: ps, x :: xs => by rw [denL, List.map_cons, numL, denL_neg ps xs]
theorem denL_cop {p : Nat} (ps : List Nat) (xs : List Int) (h : ∀ q ∈ ps, Nat.Coprime p q) : Nat.Coprime p (denL ps xs) := by
 rw [denL_neg]; exact numL_cop ps _ h
theorem numL_pos : ∀ (ps : List Nat) (xs : List Int), Apart ps → 1 ≤ numL ps xs
 | [], _, _ => by simp [numL]
 | _ :: _, [], _ => by simp [numL]
 | q :: ps, x :: xs, h => by
  rw [numL]; exact Nat.mul_pos (Nat.pow_pos (by have := h.1; omega)) (numL_pos ps xs h.2.2)
theorem denL_pos (ps : List Nat) (xs : List Int) (h : Apart ps) : 1 ≤ denL ps xs := by rw [denL_neg]; exact numL_pos ps _ h
theorem not_dvd_of_cop {p m : Nat} (hp : 2 ≤ p) (h : Nat.Coprime p m) : m % p ≠ 0 := by
 intro e
 have h1 : p ∣ Nat.gcd p m := Nat.dvd_gcd (Nat.dvd_refl _) (Nat.dvd_of_mod_eq_zero e)
 rw [h] at h1
 have := Nat.le_of_dvd (by omega) h1
 omega
theorem num_den_cop : ∀ (ps : List Nat) (xs : List Int), Apart ps → Nat.Coprime (numL ps xs) (denL ps xs)
 | [], _, _ => by simp [numL]
 | _ :: _, [], _ => by simp [numL]
 | q :: ps, x :: xs, h => by
  rw [numL, denL]
  have ih := num_den_cop ps xs h.2.2
  have h1 : Nat.Coprime (q ^ x.toNat) (denL ps xs) := Nat.Coprime.pow_left _ (denL_cop ps xs h.2.1)
  have h2 : Nat.Coprime (numL ps xs) (q ^ (-x).toNat) := Nat.Coprime.pow_right _ (numL_cop ps xs h.2.1).symm
  have h3 : Nat.Coprime (q ^ x.toNat) (q ^ (-x).toNat) := by
   by_cases hx : 0 ≤ x
   ·rw [show (-x).toNat = 0 by omega]; simp
   ·rw [show x.toNat = 0 by omega]; simp
  exact Nat.Coprime.mul_right (Nat.Coprime.mul_left h3 h2) (Nat.Coprime.mul_left h1 ih)
end Sch
end
