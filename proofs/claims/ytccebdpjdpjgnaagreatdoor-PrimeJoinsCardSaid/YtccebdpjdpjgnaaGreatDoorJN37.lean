/-
parts of the walks and of the plain laws: QEmbeds QSort
-/
import Derived.Lib.SlicesCompact
import Derived.Test.YtccebdpjdpjgnaaGreatDoorJN35
import Derived.Test.YtccebdpjdpjgnaaGreatDoorJN36
set_option linter.unusedVariables false
set_option linter.unusedSimpArgs false
section
namespace Go.Proofs.YtccebdpjdpjgnaaGreatDoor.Q
open Go.Lib hiding bytesOf bytesOf_length
open Go Go.RowKit Sch Go.Proofs.YtccebdpjdpjgnaaGreatDoor.P Go.Proofs.YtccebdpjdpjgnaaGreatDoorW.PrintWords Go.Proofs.YtccebdpjdpjgnaaGreatDoorW.PrintLast Go.Proofs.YtccebdpjdpjgnaaGreatDoorW.PrintMore
theorem index_loop (q : List Int) (a : Int) (hq : q.length ≤ 1000) : ∀ (d i : Nat), q.length = i + d → (∀ j, j < i → q.getD j 0 ≠ a) →
  (∃ j : Nat, j < q.length ∧ q.getD j 0 = a ∧ Ev (fun k => api_Primes_int_70.l0 k q a (q.length : Int) (i : Int)) (j : Int)) ∨ ((∀ j, j < q.length → q.getD j 0 ≠ a) ∧ Ev (fun k => api_Primes_int_70.l0 k q a (q.length : Int) (i : Int)) (-1)) := by
 intro d
 induction d with
 | zero =>
  intro i hi hn
  refine .inr ⟨fun j hj => hn j (by omega), Ev.succ ?_⟩
  simp only [api_Primes_int_70.l0]
  exact Ev.ite_neg (by omega) (Ev.val rfl)
 | succ d ih =>
  intro i hi hn
  by_cases h : a = q.getD i 0
  ·refine .inl ⟨i, by omega, h.symm, Ev.succ ?_⟩
   simp only [api_Primes_int_70.l0]
   rw [rd_nat]
   exact Ev.ite_pos (by omega) (Ev.ite_pos (by omega) (Ev.ite_pos (by omega) (Ev.ite_pos h (Ev.val rfl))))
  ·have hgo : ∀ r : Int, Ev (fun k => api_Primes_int_70.l0 k q a (q.length : Int) ((i + 1 : Nat) : Int)) r → Ev (fun k => api_Primes_int_70.l0 k q a (q.length : Int) (i : Int)) r := fun r hr => by
    refine Ev.succ ?_
    simp only [api_Primes_int_70.l0]
    rw [rd_nat, w64 (by omega) (by omega)]
    exact Ev.ite_pos (by omega) (Ev.ite_pos (by omega) (Ev.ite_pos (by omega) (Ev.ite_neg h hr)))
   rcases ih (i + 1) (by omega) (fun j hj => by
    by_cases hji : j = i
    ·subst hji; exact fun e => h e.symm
    ·exact hn j (by omega)) with ⟨j, h1, h2, h3⟩ | ⟨h1, h3⟩
   ·exact .inl ⟨j, h1, h2, hgo _ h3⟩
   ·exact .inr ⟨h1, hgo _ h3⟩
theorem mem_getD {q : List Int} {a : Int} : a ∈ q ↔ ∃ j, j < q.length ∧ q.getD j 0 = a := by
 rw [List.mem_iff_getElem]
 constructor
 ·rintro ⟨j, hj, e⟩
  exact ⟨j, hj, by rw [List.getD_eq_getElem?_getD, List.getElem?_eq_getElem hj]; exact e⟩
 ·rintro ⟨j, hj, e⟩
  exact ⟨j, hj, by rw [List.getD_eq_getElem?_getD, List.getElem?_eq_getElem hj] at e; exact e⟩
theorem index_ev (q : List Int) (a : Int) (hq : q.length ≤ 1000) :
  (a ∈ q ∧ ∃ j : Nat, j < q.length ∧ q.getD j 0 = a ∧ Ev (fun k => api_Primes_int_70.f k q a) (j : Int)) ∨ (a ∉ q ∧ Ev (fun k => api_Primes_int_70.f k q a) (-1)) := by
 unfold api_Primes_int_70.f
 rcases index_loop q a hq q.length 0 (by omega) (fun j hj => by omega) with ⟨j, h1, h2, h3⟩ | ⟨h1, h3⟩
 ·exact .inl ⟨mem_getD.2 ⟨j, h1, h2⟩, j, h1, h2, h3⟩
 ·refine .inr ⟨fun h => ?_, h3⟩
  obtain ⟨j, hj, e⟩ := mem_getD.1 h
  exact h1 j hj e
theorem two_ev {ps qs : List Nat} (hp : Lst ps) (hq : Lst qs) : Ev (fun k => prime_two.f k (il ps) (il qs)) 0 := by
 unfold prime_two.f
 refine Ev.bind (primeCheck_ev _) (Ev.ite_pos hp.err (Ev.bindr (primeCheck_ev _) ?_))
 rw [hq.err]
end Go.Proofs.YtccebdpjdpjgnaaGreatDoor.Q
end
section
namespace Go.Proofs.YtccebdpjdpjgnaaGreatDoor.Q
open Go.Lib
open Go
theorem sub_sorted : ∀ (U q : List Int), U.Pairwise (· < ·) → q.Pairwise (· < ·) → (∀ x ∈ q, x ∈ U) → q.Sublist U
 | [], q, _, _, h => by
  cases q with
  | nil => exact List.Sublist.slnil
  | cons a q => exact absurd (h a (by simp)) (by simp)
 | u :: U, [], _, _, _ => List.nil_sublist _
 | u :: U, a :: q, hU, hq, h => by
  rw [List.pairwise_cons] at hU
  have hq0 := hq
  rw [List.pairwise_cons] at hq
  by_cases e : a = u
  ·subst e
   refine List.Sublist.cons_cons a (sub_sorted U q hU.2 hq.2 fun x hx => ?_)
   have h1 := hq.1 x hx
   rcases List.mem_cons.1 (h x (by simp [hx])) with h2 | h2
   ·omega
   ·exact h2
  ·have ha : a ∈ U := by
    rcases List.mem_cons.1 (h a (by simp)) with h2 | h2
    ·exact absurd h2 e
    ·exact h2
   have hua := hU.1 a ha
   refine List.Sublist.cons u (sub_sorted U (a :: q) hU.2 hq0 fun x hx => ?_)
   have hxu : u < x := by
    rcases List.mem_cons.1 hx with h2 | h2
    ·omega
    ·have := hq.1 x h2; omega
   rcases List.mem_cons.1 (h x hx) with h2 | h2
   ·omega
   ·exact h2
theorem upTo_lt (d : Array Int) (hs : ∀ i j, i ≤ j → j < d.size → d[i]! ≤ d[j]!) : ∀ m, m ≤ d.size → (compactUpTo d m).Pairwise (· < ·) ∧ ∀ x ∈ compactUpTo d m, x ≤ d[m - 1]!
 | 0, _ => by simp [compactUpTo]
 | m + 1, hm => by
  obtain ⟨h1, h2⟩ := upTo_lt d hs m (by omega)
  have hle : d[m - 1]! ≤ d[m]! := hs _ _ (by omega) (by omega)
  rw [compactUpTo_succ]
  by_cases hk : keeps d m = true
  ·rw [if_pos hk]
   refine ⟨?_, ?_⟩
   ·rw [List.pairwise_append]
    refine ⟨h1, by simp, fun x hx y hy => ?_⟩
    rw [List.mem_singleton] at hy
    subst hy
    have h3 := h2 x hx
    by_cases h0 : m = 0
    ·subst h0
     simp [compactUpTo] at hx
    ·have hne : d[m]! ≠ d[m - 1]! := fun e => by
      rw [keeps_neg (by omega) e] at hk
      cases hk
     omega
   ·intro x hx
    rw [Nat.add_sub_cancel]
    rcases List.mem_append.1 hx with h3 | h3
    ·exact Int.le_trans (h2 x h3) hle
    ·rw [List.mem_singleton] at h3
     omega
  ·rw [if_neg hk, List.append_nil, Nat.add_sub_cancel]
   exact ⟨h1, fun x hx => Int.le_trans (h2 x hx) hle⟩
theorem upTo_mem (d : Array Int) (x : Int) : ∀ m, x ∈ compactUpTo d m ↔ ∃ j, j < m ∧ d[j]! = x
 | 0 => by simp [compactUpTo]
 | m + 1 => by
  rw [compactUpTo_succ, List.mem_append, upTo_mem d x m]
  constructor
  ·rintro (⟨j, hj, e⟩ | h)
   ·exact ⟨j, by omega, e⟩
   ·by_cases hk : keeps d m = true
    ·rw [if_pos hk, List.mem_singleton] at h
     exact ⟨m, by omega, h.symm⟩
    ·rw [if_neg hk] at h
     exact absurd h (by simp)
  ·rintro ⟨j, hj, e⟩
   by_cases hjm : j < m
   ·exact .inl ⟨j, hjm, e⟩
   ·obtain rfl : j = m := by omega
    by_cases hk : keeps d j = true
    ·rw [if_pos hk, List.mem_singleton]
     exact .inr e.symm
    ·refine .inl ⟨j - 1, ?_, ?_⟩
     ·have : j ≠ 0 := fun h0 => hk (keeps_lt_one d j (by omega))
      omega
     ·by_cases h2 : d[j]! = d[j - 1]!
      ·rw [← h2]; exact e
      ·exact absurd (keeps_pos h2) hk
theorem compact_mem (l : List Int) (x : Int) : x ∈ compact l ↔ x ∈ l := by
 unfold compact
 rw [upTo_mem]
 constructor
 ·rintro ⟨j, hj, rfl⟩
  have : l.toArray[j]! = l[j] := by simp [hj]
  rw [this]
  exact List.getElem_mem hj
 ·intro h
  obtain ⟨j, hj, rfl⟩ := List.mem_iff_getElem.1 h
  exact ⟨j, hj, by simp [hj]⟩
theorem compact_lt (l : List Int) (h : l.Pairwise (· ≤ ·)) : (compact l).Pairwise (· < ·) := by
 refine (upTo_lt l.toArray (fun i j hij hj => ?_) l.length (by simp)).1
 have hj' : j < l.length := by simpa using hj
 have h1 : l.toArray[i]! = l[i]'(by omega) := by simp [show i < l.length by omega]
 have h2 : l.toArray[j]! = l[j] := by simp [hj']
 rw [h1, h2]
 by_cases e : i = j
 ·subst e; exact Int.le_refl _
 ·exact List.pairwise_iff_getElem.1 h i j _ hj' (by omega)
def both (p q : List Int) : List Int := compact ((p ++ q).mergeSort fun x y => decide (x ≤ y))
theorem both_mem (p q : List Int) (x : Int) : x ∈ both p q ↔ x ∈ p ∨ x ∈ q := by
 unfold both
 rw [compact_mem, List.mem_mergeSort, List.mem_append]
theorem both_lt (p q : List Int) : (both p q).Pairwise (· < ·) := by
 refine compact_lt _ ?_
 have := List.pairwise_mergeSort (le := fun x y : Int => decide (x ≤ y)) (fun a b c h1 h2 => by
  simp only [decide_eq_true_eq] at h1 h2 ⊢; omega) (fun a b => by
  simp only [Bool.or_eq_true, decide_eq_true_eq]; omega) (p ++ q)
 exact this.imp (fun h => by simpa using h)
theorem both_within (p q : List Int) (hq : q.Pairwise (· < ·)) : ((both p q).length = q.length) ↔ ∀ x ∈ p, x ∈ q := by
 have h1 : q.Sublist (both p q) := sub_sorted _ _ (both_lt p q) hq (fun x hx => (both_mem p q x).2 (.inr hx))
 constructor
 ·intro h x hx
  rw [h1.eq_of_length h.symm]
  exact (both_mem p q x).2 (.inl hx)
 ·intro h
  have h2 : (both p q).Sublist q := sub_sorted _ _ hq (both_lt p q) (fun x hx => by
   rcases (both_mem p q x).1 hx with h3 | h3
   ·exact h x h3
   ·exact h3)
  exact Nat.le_antisymm h2.length_le h1.length_le
end Go.Proofs.YtccebdpjdpjgnaaGreatDoor.Q
end
