/-
Plain laws: checks of primes and of rows of exponents; the text of a row.
-/
import Derived.Test.YtccebdpjdpjgnaaGreatDoorJN22
import Derived.Test.YtccebdpjdpjgnaaGreatDoorJN23
set_option linter.unusedVariables false
set_option linter.unusedSimpArgs false
namespace Go.Proofs.YtccebdpjdpjgnaaGreatDoor.Q
open Go.Lib hiding bytesOf bytesOf_length
open Go Go.RowKit Sch Go.Proofs.YtccebdpjdpjgnaaGreatDoor.P Go.Proofs.YtccebdpjdpjgnaaGreatDoorW.PrintWords Go.Proofs.YtccebdpjdpjgnaaGreatDoorW.PrintLast Go.Proofs.YtccebdpjdpjgnaaGreatDoorW.PrintMore
set_option linter.unusedVariables false
set_option linter.unusedSimpArgs false
def isP (x : Int) : Bool := [2, 3, 5, 7, 11, 13, 17, 19, 23, 29, 31, 37, 41, 43, 47, 53, 59, 61, 67, 71, 73, 79, 83, 89, 97].contains x
theorem isP_range {x : Int} (h : isP x = true) : 2 ≤ x ∧ x ≤ 97 := by
 unfold isP at h
 simp only [List.contains_eq_mem, decide_eq_true_eq, List.mem_cons, List.not_mem_nil, or_false] at h
 omega
theorem isPrime_fin : ∀ n : Fin 98, 2 ≤ n.val → prime_IsPrime.f 30 ((n.val : Nat) : Int) = some (isP (n.val : Nat)) := by decide +kernel
theorem isPrime_ev (x : Int) : Ev (fun k => prime_IsPrime.f k x) (isP x) := by
 by_cases h : 2 ≤ x ∧ x ≤ 97
 ·obtain ⟨n, rfl⟩ := Int.eq_ofNat_of_zero_le (show 0 ≤ x by omega)
  exact Ev.of (fun k => prime_IsPrime.mono _ k) (isPrime_fin ⟨n, by omega⟩ (by show 2 ≤ n; omega))
 ·have hf : isP x = false := by
   rw [Bool.eq_false_iff]; intro e; exact h (isP_range e)
  rw [hf]
  unfold prime_IsPrime.f
  have hj : Ev (fun k => prime_IsPrime.j0 k x true) false := by
   refine Ev.succ ?_
   simp only [prime_IsPrime.j0]
   exact Ev.ite_pos (by simp) (Ev.val rfl)
  by_cases h2 : x < 2
  ·exact Ev.ite_pos h2 hj
  ·refine Ev.ite_neg h2 ?_
   rw [decide_eq_true (by omega)]
   exact hj
def goP (prev : Int) : List Int → Int
 | [] => 0
 | x :: l => if isP x = true then (if x ≤ prev then 6 else goP x l) else 25
def primeErr (p : List Int) : Int := if p.length = 0 then 13 else if p.length > 6 then 4 else goP 0 p
theorem primeCheck_ev (p : List Int) : Ev (fun k => prime_Check.f k p) (primeErr p) := by
 unfold prime_Check.f primeErr
 by_cases h0 : p.length = 0
 ·rw [if_pos h0]; exact Ev.ite_pos (by omega) (Ev.val rfl)
 ·rw [if_neg h0]
  refine Ev.ite_neg (by omega) ?_
  by_cases h6 : p.length > 6
  ·rw [if_pos h6]; exact Ev.ite_pos (by omega) (Ev.val rfl)
  ·rw [if_neg h6]
   refine Ev.ite_neg (by omega) ?_
   have : ∀ (d i : Nat), p.length = i + d → Ev (fun k => prime_Check.l0 k p p (p.length : Int) (i : Int)) (goP (if i = 0 then 0 else p.getD (i - 1) 0) (p.drop i)) := by
    intro d
    induction d with
    | zero =>
     intro i hi
     refine Ev.succ ?_
     simp only [prime_Check.l0]
     rw [List.drop_of_length_le (by omega)]
     exact Ev.ite_neg (by omega) (Ev.val rfl)
    | succ d ih =>
     intro i hi
     refine Ev.succ ?_
     simp only [prime_Check.l0]
     rw [rd_nat, drop_getD p i (by omega), goP]
     refine Ev.ite_pos (by omega) (Ev.ite_pos (by omega) (Ev.ite_pos (by omega) (Ev.bind (isPrime_ev _) ?_)))
     have hn := ih (i + 1) (by omega)
     rw [if_neg (by omega), Nat.add_sub_cancel] at hn
     have hi1 : ((i + 1 : Nat) : Int) = (i : Int) + 1 := by omega
     rw [hi1] at hn
     rw [w64 (x := (i : Int) + 1) (by omega) (by omega)]
     by_cases hp : isP (p.getD i 0) = true
     ·rw [if_pos hp]
      refine Ev.ite_pos hp ?_
      by_cases hi0 : i = 0
      ·subst hi0
       rw [if_pos rfl, if_neg (by have := isP_range hp; omega)]
       exact Ev.ite_neg (by omega) hn
      ·rw [if_neg hi0]
       refine Ev.ite_pos (by omega) ?_
       have e1 : (i : Int) - 1 = ((i - 1 : Nat) : Int) := by omega
       rw [e1, w64 (by omega) (by omega), rd_nat]
       refine Ev.ite_pos (by omega) (Ev.ite_pos (by omega) ?_)
       by_cases hle : p.getD i 0 ≤ p.getD (i - 1) 0
       ·rw [if_pos hle]; exact Ev.ite_pos hle (Ev.val rfl)
       ·rw [if_neg hle]; exact Ev.ite_neg hle hn
     ·rw [if_neg hp]
      exact Ev.ite_neg hp (Ev.val rfl)
   have h := this p.length 0 (by omega)
   simpa using h
def far (x : List Int) : Bool := x.any fun n => decide (n > 1000 ∨ n < -1000)
def chk (p x : List Int) : Int := if x.length = p.length then (if far x = true then 4 else 0) else 5
end Go.Proofs.YtccebdpjdpjgnaaGreatDoor.Q
