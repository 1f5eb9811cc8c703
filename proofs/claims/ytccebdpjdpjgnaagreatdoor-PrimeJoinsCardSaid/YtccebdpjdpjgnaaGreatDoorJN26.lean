/-
parts of the walks and of the plain laws: QPow 
-/
import Derived.Test.YtccebdpjdpjgnaaGreatDoorJN19
import Derived.Test.YtccebdpjdpjgnaaGreatDoorJN25
set_option linter.unusedVariables false
set_option linter.unusedSimpArgs false
section
namespace Go.Proofs.YtccebdpjdpjgnaaGreatDoor.Q
open Go.Lib hiding bytesOf bytesOf_length
open Go Go.RowKit Sch Go.Proofs.YtccebdpjdpjgnaaGreatDoor.P Go.Proofs.YtccebdpjdpjgnaaGreatDoorW.PrintWords Go.Proofs.YtccebdpjdpjgnaaGreatDoorW.PrintLast Go.Proofs.YtccebdpjdpjgnaaGreatDoorW.PrintMore
theorem nd_pow (b n : Nat) : nDigits (b ^ n) ≤ n * nDigits b + 1 := by
 induction n with
 | zero => rw [Nat.pow_zero, nDigits_small (by decide)]; omega
 | succ n ih =>
  rw [Nat.pow_succ]
  have := nd_mul (b ^ n) b
  rw [Nat.succ_mul]
  rcases Nat.eq_zero_or_pos n with h | h
  ·subst h; simp
  ·have h3 : nDigits (b ^ n * b) ≤ n * nDigits b + nDigits b + 1 := by
    have := nd_mul (b ^ n) b
    omega
   exact h3
end Go.Proofs.YtccebdpjdpjgnaaGreatDoor.Q
end
section
namespace Sch
def expo (p n : Nat) : Nat := if _h : 2 ≤ p ∧ 1 ≤ n ∧ n % p = 0 then expo p (n / p) + 1 else 0
termination_by n
decreasing_by exact Nat.div_lt_self (by omega) (by omega)
def rest (p n : Nat) : Nat := if _h : 2 ≤ p ∧ 1 ≤ n ∧ n % p = 0 then rest p (n / p) else n
termination_by n
decreasing_by exact Nat.div_lt_self (by omega) (by omega)
theorem expo_yes {p n : Nat} (h1 : 2 ≤ p) (h2 : 1 ≤ n) (h3 : n % p = 0) : expo p n = expo p (n / p) + 1 := by rw [expo, dif_pos ⟨h1, h2, h3⟩]
theorem expo_no {p n : Nat} (h : n % p ≠ 0) : expo p n = 0 := by rw [expo, dif_neg (by omega)]
theorem rest_yes {p n : Nat} (h1 : 2 ≤ p) (h2 : 1 ≤ n) (h3 : n % p = 0) : rest p n = rest p (n / p) := by rw [rest, dif_pos ⟨h1, h2, h3⟩]
theorem rest_no {p n : Nat} (h : n % p ≠ 0) : rest p n = n := by rw [rest, dif_neg (by omega)]
theorem expo_rest_pow {p m : Nat} (hp : 2 ≤ p) (hm : m % p ≠ 0) : ∀ k, expo p (p ^ k * m) = k ∧ rest p (p ^ k * m) = m := by
 intro k
 have hm1 : 1 ≤ m := by
  rcases Nat.eq_zero_or_pos m with rfl | h
  ·simp at hm
  ·exact h
 induction k with
 | zero => rw [Nat.pow_zero, Nat.one_mul]; exact ⟨expo_no hm, rest_no hm⟩
 | succ k ih =>
  have e : p ^ (k + 1) * m = p * (p ^ k * m) := by rw [Nat.pow_succ, Nat.mul_comm (p ^ k) p, Nat.mul_assoc]
  have h1 : 1 ≤ p ^ (k + 1) * m := Nat.mul_pos (Nat.pow_pos (by omega)) hm1
  have h2 : p ^ (k + 1) * m % p = 0 := by rw [e]; exact Nat.mul_mod_right _ _
  have h3 : p ^ (k + 1) * m / p = p ^ k * m := by rw [e]; exact Nat.mul_div_cancel_left _ (by omega)
  rw [expo_yes hp h1 h2, rest_yes hp h1 h2, h3, ih.1, ih.2]
  exact ⟨rfl, rfl⟩
theorem expo_rest (p : Nat) (hp : 2 ≤ p) : ∀ n, 1 ≤ n → n = p ^ expo p n * rest p n ∧ rest p n % p ≠ 0 := by
 intro n
 induction n using Nat.strongRecOn with
 | _ n ih =>
  intro hn
  by_cases h : n % p = 0
  ·have h1 : n / p < n := Nat.div_lt_self (by omega) (by omega)
   have h2 : 1 ≤ n / p := Nat.div_pos (Nat.le_of_dvd (by omega) (Nat.dvd_of_mod_eq_zero h)) (by omega)
   obtain ⟨e1, e2⟩ := ih _ h1 h2
   rw [expo_yes hp hn h, rest_yes hp hn h]
   refine ⟨?_, e2⟩
   rw [Nat.pow_succ, Nat.mul_assoc, Nat.mul_comm p, ← Nat.mul_assoc, ← e1]
   exact (Nat.div_mul_cancel (Nat.dvd_of_mod_eq_zero h)).symm
  ·rw [expo_no h, rest_no h]; exact ⟨by simp, h⟩
theorem rest_pos {p n : Nat} (hp : 2 ≤ p) (hn : 1 ≤ n) : 1 ≤ rest p n := by
 have := (expo_rest p hp n hn).2
 rcases Nat.eq_zero_or_pos (rest p n) with e | e
 ·rw [e] at this; simp at this
 ·exact e
theorem rest_le {p n : Nat} (hp : 2 ≤ p) (hn : 1 ≤ n) : rest p n ≤ n := by
 have h := (expo_rest p hp n hn).1
 have : 1 ≤ p ^ expo p n := Nat.one_le_pow _ _ (by omega)
 conv => rhs; rw [h]
 exact Nat.le_mul_of_pos_left _ this
theorem expo_lt {p n : Nat} (hp : 2 ≤ p) (hn : 1 ≤ n) : 2 ^ expo p n ≤ n := by
 have h := (expo_rest p hp n hn).1
 have h1 : 2 ^ expo p n ≤ p ^ expo p n := Nat.pow_le_pow_left hp _
 have h2 := rest_pos hp hn
 have h3 : p ^ expo p n * 1 ≤ p ^ expo p n * rest p n := Nat.mul_le_mul_left _ h2
 rw [← h] at h3
 omega
def numL : List Nat → List Int → Nat
 | p :: ps, x :: xs => p ^ x.toNat * numL ps xs
 | _, _ => 1
def denL : List Nat → List Int → Nat
 | p :: ps, x :: xs => p ^ (-x).toNat * denL ps xs
 | _, _ => 1
def Apart : List Nat → Prop
 | [] => True
 | p :: ps => 2 ≤ p ∧ (∀ q ∈ ps, Nat.Coprime p q) ∧ Apart ps
theorem numL_cop {p : Nat} : ∀ (ps : List Nat) (xs : List Int), (∀ q ∈ ps, Nat.Coprime p q) → Nat.Coprime p (numL ps xs)
 | [], _, _ => by simp [numL]
 | _ :: _, [], _ => by simp [numL]
 | q :: ps, x :: xs, h => by
  rw [numL]
  exact Nat.Coprime.mul_right (Nat.Coprime.pow_right _ (h q (by simp))) (numL_cop ps xs fun r hr => h r (by simp [hr]))
theorem denL_neg : ∀ (ps : List Nat) (xs : List Int), denL ps xs = numL ps (xs.map fun x => -x)
 | [], _ => by simp [numL, denL]
 | _ :: _, [] => by simp [numL, denL]
 | q :: ps, x :: xs => by rw [denL, List.map_cons, numL, denL_neg ps xs]
theorem denL_cop {p : Nat} (ps : List Nat) (xs : List Int) (h : ∀ q ∈ ps, Nat.Coprime p q) : Nat.Coprime p (denL ps xs) := by
 rw [denL_neg]; exact numL_cop ps _ h
theorem numL_pos : ∀ (ps : List Nat) (xs : List Int), Apart ps → 1 ≤ numL ps xs
 | [], _, _ => by simp [numL]
 | _ :: _, [], _ => by simp [numL]
 | q :: ps, x :: xs, h => by
  rw [numL]; exact Nat.mul_pos (Nat.pow_pos (by have := h.1; omega)) (numL_pos ps xs h.2.2)
theorem denL_pos (ps : List Nat) (xs : List Int) (h : Apart ps) : 1 ≤ denL ps xs := by rw [denL_neg]; exact numL_pos ps _ h
theorem not_dvd_of_cop {p m : Nat} (hp : 2 ≤ p) (h : Nat.Coprime p m) : m % p ≠ 0 := by
 intro e
 have h1 : p ∣ Nat.gcd p m := Nat.dvd_gcd (Nat.dvd_refl _) (Nat.dvd_of_mod_eq_zero e)
 rw [h] at h1
 have := Nat.le_of_dvd (by omega) h1
 omega
theorem num_den_cop : ∀ (ps : List Nat) (xs : List Int), Apart ps → Nat.Coprime (numL ps xs) (denL ps xs)
 | [], _, _ => by simp [numL]
 | _ :: _, [], _ => by simp [numL]
 | q :: ps, x :: xs, h => by
  rw [numL, denL]
  have ih := num_den_cop ps xs h.2.2
  have h1 : Nat.Coprime (q ^ x.toNat) (denL ps xs) := Nat.Coprime.pow_left _ (denL_cop ps xs h.2.1)
  have h2 : Nat.Coprime (numL ps xs) (q ^ (-x).toNat) := Nat.Coprime.pow_right _ (numL_cop ps xs h.2.1).symm
  have h3 : Nat.Coprime (q ^ x.toNat) (q ^ (-x).toNat) := by
   by_cases hx : 0 ≤ x
   ·rw [show (-x).toNat = 0 by omega]; simp
   ·rw [show x.toNat = 0 by omega]; simp
  exact Nat.Coprime.mul_right (Nat.Coprime.mul_left h3 h2) (Nat.Coprime.mul_left h1 ih)
end Sch
end
