/-
Plain laws: the described lists of primes.
-/
import Derived.Test.YtccebdpjdpjgnaaGreatDoorJN33
import Derived.Test.YtccebdpjdpjgnaaGreatDoorJN34
set_option linter.unusedVariables false
set_option linter.unusedSimpArgs false
namespace Go.Proofs.YtccebdpjdpjgnaaGreatDoor.Q
open Go.Lib hiding bytesOf bytesOf_length
open Go Go.RowKit Sch Go.Proofs.YtccebdpjdpjgnaaGreatDoor.P Go.Proofs.YtccebdpjdpjgnaaGreatDoorW.PrintWords Go.Proofs.YtccebdpjdpjgnaaGreatDoorW.PrintLast Go.Proofs.YtccebdpjdpjgnaaGreatDoorW.PrintMore
set_option linter.unusedVariables false
set_option linter.unusedSimpArgs false
def m53 : List Nat := [2, 3, 5, 7, 11, 13, 17, 19, 23, 29, 31, 37, 41, 43, 47, 53]
theorem all53 : schismalaw11_all.f 130 53 = some (il m53) := by decide +kernel
theorem m53_lt : m53.Pairwise (· < ·) := by decide
theorem m53_cop : m53.Pairwise (fun a b => Nat.gcd a b = 1) := by decide +kernel
theorem m53_p : ∀ p ∈ m53, isP (p : Nat) = true ∧ 2 ≤ p ∧ p ≤ 53 := by decide
theorem goP_ok : ∀ (l : List Nat) (prev : Int), (∀ x ∈ l, isP (x : Nat) = true) → l.Pairwise (· < ·) → (∀ x ∈ l, prev < (x : Nat)) → goP prev (il l) = 0
 | [], _, _, _, _ => rfl
 | x :: l, prev, h1, h2, h3 => by
  rw [List.pairwise_cons] at h2
  show goP prev ((x : Int) :: il l) = 0
  rw [goP, if_pos (h1 x (by simp)), if_neg (by have := h3 x (by simp); omega)]
  exact goP_ok l x (fun y hy => h1 y (by simp [hy])) h2.2 (fun y hy => by have := h2.1 y hy; omega)
theorem apart_pairs : ∀ (l : List Nat), (∀ x ∈ l, 2 ≤ x) → l.Pairwise (fun a b => Nat.gcd a b = 1) → Apart l
 | [], _, _ => trivial
 | x :: l, h1, h2 => by
  rw [List.pairwise_cons] at h2
  exact ⟨h1 x (by simp), fun y hy => h2.1 y hy, apart_pairs l (fun y hy => h1 y (by simp [hy])) h2.2⟩
structure Lst (ps : List Nat) : Prop where
 pos : 1 ≤ ps.length
 few : ps.length ≤ 6
 rng : ∀ p ∈ ps, 2 ≤ p ∧ p ≤ 53
 err : primeErr (il ps) = 0
 apart : Apart ps
 lt : ps.Pairwise (· < ·)
theorem lst_of {ps : List Nat} (h : ps.Sublist m53) (h1 : 1 ≤ ps.length) (h6 : ps.length ≤ 6) : Lst ps := by
 have hm : ∀ p ∈ ps, isP (p : Nat) = true ∧ 2 ≤ p ∧ p ≤ 53 := fun p hp => m53_p p (h.subset hp)
 have hlt := m53_lt.sublist h
 refine ⟨h1, h6, fun p hp => (hm p hp).2, ?_, apart_pairs ps (fun p hp => (hm p hp).2.1) (m53_cop.sublist h), hlt⟩
 unfold primeErr
 rw [il_length, if_neg (by omega), if_neg (by omega)]
 exact goP_ok ps 0 (fun p hp => (hm p hp).1) hlt (fun p hp => by have := (hm p hp).2.1; omega)
theorem make11_loop (a : Int) : ∀ (c i : Nat) (acc : List Nat), m53.length = i + c → acc.Sublist (m53.take i) → acc.length ≤ 6 →
  ∃ ps, Lst ps ∧ Ev (fun k => schismalaw11_Make.l0 k a (il acc) (il m53) (m53.length : Int) (i : Int)) (il ps) := by
 intro c
 induction c with
 | zero =>
  intro i acc hi hs h6
  rw [List.take_of_length_le (by omega)] at hs
  by_cases h0 : acc.length = 0
  ·refine ⟨[2], lst_of (by decide) (by decide) (by decide), Ev.succ ?_⟩
   simp only [schismalaw11_Make.l0, il_length]
   exact Ev.ite_neg (by omega) (Ev.ite_pos (by omega) (Ev.val rfl))
  ·refine ⟨acc, lst_of hs (by omega) h6, Ev.succ ?_⟩
   simp only [schismalaw11_Make.l0, il_length]
   exact Ev.ite_neg (by omega) (Ev.ite_neg (by omega) (Ev.val rfl))
 | succ c ih =>
  intro i acc hi hs h6
  have hlt : i < m53.length := by omega
  have h16 : m53.length = 16 := rfl
  have hgo : ∀ acc2 : List Nat, acc2.Sublist (m53.take (i + 1)) → acc2.length ≤ 6 → ∃ ps, Lst ps ∧ Ev (fun k => schismalaw11_Make.l0 k a (il acc2) (il m53) (m53.length : Int) (wrap64 ((i : Int) + 1))) (il ps) := fun acc2 h2 h3 => by
   obtain ⟨ps, h4, h5⟩ := ih (i + 1) acc2 (by omega) h2 h3
   rw [w64 (by omega) (by omega)]
   exact ⟨ps, h4, h5⟩
  have hsub : acc.Sublist (m53.take (i + 1)) := hs.trans (List.take_sublist_take_left (by omega))
  obtain ⟨ps, g1, g2⟩ := hgo acc hsub h6
  by_cases hb : Go.bits .and .u16 (shr .u16 a (i : Int)) 1 = 1
  ·by_cases h5 : acc.length < 6
   ·have hs2 : (acc ++ [m53.getD i 0]).Sublist (m53.take (i + 1)) := by
     have e : m53.take (i + 1) = m53.take i ++ [m53.getD i 0] := by
      rw [List.getD_eq_getElem?_getD, List.getElem?_eq_getElem hlt]
      exact List.take_succ_eq_append_getElem hlt
     rw [e]
     exact List.Sublist.append hs (List.Sublist.refl _)
    obtain ⟨ps2, k1, k2⟩ := hgo _ hs2 (by simp; omega)
    refine ⟨ps2, k1, Ev.succ ?_⟩
    simp only [schismalaw11_Make.l0, il_length]
    rw [rd_nat, il_getD]
    have e2 : il acc ++ [((m53.getD i 0 : Nat) : Int)] = il (acc ++ [m53.getD i 0]) := by simp [il]
    rw [e2]
    exact Ev.ite_pos (by omega) (Ev.ite_pos (by omega) (Ev.ite_pos (by omega) (Ev.ite_pos hb (Ev.ite_pos (by omega) (Ev.ite_pos (by omega) k2)))))
   ·refine ⟨ps, g1, Ev.succ ?_⟩
    simp only [schismalaw11_Make.l0, il_length]
    exact Ev.ite_pos (by omega) (Ev.ite_pos (by omega) (Ev.ite_pos (by omega) (Ev.ite_pos hb (Ev.ite_neg (by omega) g2))))
  ·refine ⟨ps, g1, Ev.succ ?_⟩
   simp only [schismalaw11_Make.l0, il_length]
   exact Ev.ite_pos (by omega) (Ev.ite_pos (by omega) (Ev.ite_pos (by omega) (Ev.ite_neg hb g2)))
theorem make11_ev (a : Int) : ∃ ps, Lst ps ∧ Ev (fun k => schismalaw11_Make.f k a) (il ps) := by
 obtain ⟨ps, h1, h2⟩ := make11_loop a m53.length 0 [] (by omega) (List.nil_sublist _) (by decide)
 refine ⟨ps, h1, ?_⟩
 unfold schismalaw11_Make.f
 refine Ev.bind (Ev.of (fun k => schismalaw11_all.mono _ k) all53) ?_
 rw [il_length]
 exact h2
end Go.Proofs.YtccebdpjdpjgnaaGreatDoor.Q
