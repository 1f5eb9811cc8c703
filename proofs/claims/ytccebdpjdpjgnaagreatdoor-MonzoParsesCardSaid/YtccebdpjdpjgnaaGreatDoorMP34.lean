/-
Plain laws: the known answers, and the statements MonzoChecks and MonzoFractions.
-/
import Derived.Test.YtccebdpjdpjgnaaGreatDoorMP31
import Derived.Test.YtccebdpjdpjgnaaGreatDoorMP33
set_option linter.unusedVariables false
set_option linter.unusedSimpArgs false
namespace Go.Proofs.YtccebdpjdpjgnaaGreatDoor.Q
open Go.Lib hiding bytesOf bytesOf_length
open Go Go.RowKit Sch Go.Proofs.YtccebdpjdpjgnaaGreatDoor.P Go.Proofs.YtccebdpjdpjgnaaGreatDoorW.PrintWords Go.Proofs.YtccebdpjdpjgnaaGreatDoorW.PrintLast Go.Proofs.YtccebdpjdpjgnaaGreatDoorW.PrintMore
set_option linter.unusedVariables false
set_option linter.unusedSimpArgs false
def apartB : List Nat → Bool
 | [] => true
 | p :: ps => decide (2 ≤ p) && ps.all (fun q => decide (Nat.gcd p q = 1)) && apartB ps
theorem apart_of : ∀ ps : List Nat, apartB ps = true → Apart ps
 | [], _ => trivial
 | p :: ps, h => by
  unfold apartB at h
  simp only [Bool.and_eq_true, decide_eq_true_eq, List.all_eq_true] at h
  exact ⟨h.1.1, fun q hq => h.1.2 q hq, apart_of ps h.2⟩
def plists : List (List Nat) := [[2, 3, 5], [2, 3, 5, 7], [2, 3], [2, 3, 7], [2, 5, 7], [3, 5, 7], [2, 3, 5, 11], [2], [2, 3, 7, 13], [3, 5, 7, 13]]
def okL (ps : List Nat) : Bool := decide (ps.length ≤ 4) && ps.all (fun p => decide (2 ≤ p ∧ p ≤ 13)) && decide (primeErr (il ps) = 0) && apartB ps
theorem plists_ok : ∀ ps ∈ plists, okL ps = true := by decide +kernel
theorem okL_facts {ps : List Nat} (h : okL ps = true) : ps.length ≤ 4 ∧ (∀ p ∈ ps, 2 ≤ p ∧ p ≤ 13) ∧ primeErr (il ps) = 0 ∧ Apart ps := by
 unfold okL at h
 simp only [Bool.and_eq_true, decide_eq_true_eq, List.all_eq_true] at h
 exact ⟨h.1.1.1, fun p hp => by have := h.1.1.2 p hp; exact this, h.1.2, apart_of ps h.2⟩
theorem okL_fit {ps : List Nat} {xs : List Int} (h : okL ps = true) (hl : xs.length = ps.length) (hx : ∀ x ∈ xs, -1000 ≤ x ∧ x ≤ 1000) : Fit ps xs := by
 obtain ⟨h1, h2, h3, h4⟩ := okL_facts h
 exact ⟨hl, by omega, fun p hp => by have := h2 p hp; omega, h3, h4, hx⟩
theorem ns81 : (⟨#[56, 49]⟩ : ByteArray) = ns 81 := by unfold ns; rw [dec_big (by decide), dec_small (by decide)]; rfl
theorem ns80 : (⟨#[56, 48]⟩ : ByteArray) = ns 80 := by unfold ns; rw [dec_big (by decide), dec_small (by decide)]; rfl
theorem ns7 : (⟨#[55]⟩ : ByteArray) = ns 7 := by unfold ns; rw [dec_small (by decide)]; rfl
theorem ns4 : (⟨#[52]⟩ : ByteArray) = ns 4 := by unfold ns; rw [dec_small (by decide)]; rfl
theorem nd_small3 {n : Nat} (h : n < 10000) : nDigits n ≤ 4 := nd_le (by omega) (by decide)
theorem itoa_dig {n : Nat} (h : n < 10) : itoa (n : Int) = [UInt8.ofNat (48 + n)] := by
 unfold itoa
 rw [if_neg (by omega), Int.toNat_natCast, dec_small h]
theorem itoa_neg {n : Nat} (h : n < 10) (h0 : n ≠ 0) : itoa (-(n : Int)) = [45, UInt8.ofNat (48 + n)] := by
 unfold itoa
 rw [if_pos (by omega), Int.natAbs_neg, Int.natAbs_natCast, dec_small h]
theorem p235 : okL [2, 3, 5] = true := by decide +kernel
theorem known_ev : Ev (fun k => schismalaw12_known.f k) true := by
 unfold schismalaw12_known.f
 have e235 : ([2, 3, 5] : List Int) = il [2, 3, 5] := rfl
 have f1 : Fit [2, 3, 5] [-4, 4, -1] := okL_fit p235 rfl (by decide)
 have f2 : Fit [2, 3, 5] [-1, 1, 0] := okL_fit p235 rfl (by decide)
 have f3 : Fit [2, 3, 5] [3, -3, 1] := okL_fit p235 rfl (by decide)
 have n1 : numL [2, 3, 5] [-4, 4, -1] = 81 := by decide
 have d1 : denL [2, 3, 5] [-4, 4, -1] = 80 := by decide
 have n2 : numL [2, 3, 5] [-1, 1, 0] = 3 := by decide
 have d2 : denL [2, 3, 5] [-1, 1, 0] = 2 := by decide
 have n3 : numL [2, 3, 5] [3, -3, 1] = 40 := by decide
 have d3 : denL [2, 3, 5] [3, -3, 1] = 27 := by decide
 have q1 := nd_small3 (show 81 < 10000 by decide)
 have q2 := nd_small3 (show 80 < 10000 by decide)
 have q3 := nd_small3 (show 6480 < 10000 by decide)
 have q4 := nd_small3 (show 7 < 10000 by decide)
 have q5 := nd_small3 (show 4 < 10000 by decide)
 have of1 := f1.of (by rw [n1]; omega) (by rw [d1]; omega)
 rw [n1, d1, ← ns81, ← ns80] at of1
 have br := brackets_ev (il [2, 3, 5]) [-4, 4, -1] f1.err rfl (by decide) f1.notfar
 have tx := f1.text
 rw [n1, d1, if_pos ⟨by omega, by omega⟩] at tx
 have pr := f1.product
 rw [n1, d1, if_pos (show nDigits (81 * 80) ≤ 400 by show nDigits 6480 ≤ 400; omega)] at pr
 have cp := f2.compare f3
 rw [n2, d2, n3, d3] at cp
 have of2 := mof_ev [2, 3, 5] (by decide) (by decide) f1.err 7 4 (by decide) (by decide) (by omega) (by omega) (fcheck_ok 7 4 (by decide) (by decide) (by omega) (by omega))
 have hx : ofR (ofX [2, 3, 5] 7 4).1 (ofX [2, 3, 5] 7 4).2.1 (ofX [2, 3, 5] 7 4).2.2 = ([], 25) := by
  have : (ofX [2, 3, 5] 7 4).2.1 = 7 := by
   simp only [ofX]
   rw [rest_no (p := 2) (n := 7) (by decide), rest_no (p := 3) (n := 7) (by decide), rest_no (p := 5) (n := 7) (by decide)]
  unfold ofR
  rw [this, if_neg (by rintro ⟨h, _⟩; revert h; decide)]
 rw [hx, ← ns7, ← ns4] at of2
 refine Ev.bindc rfl ?_
 rw [e235]
 refine Ev.bind of1 (Ev.bind br (Ev.bind tx (Ev.bind pr (Ev.bind cp (Ev.bind of2 (Ev.ite_pos rfl (Ev.bind (same_ev _ _ (by decide) (by decide)) (Ev.ite_pos (by decide) (Ev.ite_pos rfl (Ev.ite_pos ?_ (Ev.ite_pos rfl (Ev.ite_pos ?_ (Ev.ite_pos ?_ (Ev.ite_pos rfl (Ev.ite_pos (by decide) (Ev.ite_pos rfl (Ev.val (by decide))))))))))))))))))
 ·have i1 : itoa (-4) = [45, 52] := itoa_neg (n := 4) (by decide) (by decide)
  have i2 : itoa 4 = [52] := itoa_dig (n := 4) (by decide)
  have i3 : itoa (-1) = [45, 49] := itoa_neg (n := 1) (by decide) (by decide)
  unfold rowB
  simp only [List.map_cons, List.map_nil, i1, i2, i3]
  rw [toList_data]
  rfl
 ·show (ftB 81 80).toList = _
  unfold ftB
  rw [if_neg (by decide), ← ns81, ← ns80, toList_data]
  rfl
 ·show (ns (81 * 80)).toList = _
  rw [ns_list]
  show decDigits 6480 = _
  rw [dec_big (by decide), dec_big (by decide), dec_big (by decide), dec_small (by decide)]
  rfl
theorem primes_val (a0 : Int) (h0 : 0 ≤ a0) (h1 : a0 ≤ 255) : ∃ ps ∈ plists, schismalaw12_Primes.f a0 = some (il ps) := by
 unfold schismalaw12_Primes.f
 obtain ⟨n, rfl⟩ := Int.eq_ofNat_of_zero_le h0
 rw [w64 (by omega) (by omega)]
 simp only [Option.bind_some]
 have e : Int.tmod (n : Int) 10 = ((n % 10 : Nat) : Int) := by rw [Int.tmod_eq_emod_of_nonneg (by omega)]; rfl
 have hm : n % 10 < 10 := Nat.mod_lt _ (by decide)
 simp only [List.length_cons, List.length_nil, Nat.zero_add, Nat.reduceAdd, Int.cast_ofNat_Int]
 rw [e]
 generalize n % 10 = i at hm
 rw [if_neg (by decide), if_pos (by omega), if_pos (by omega)]
 rcases (show i = 0 ∨ i = 1 ∨ i = 2 ∨ i = 3 ∨ i = 4 ∨ i = 5 ∨ i = 6 ∨ i = 7 ∨ i = 8 ∨ i = 9 by omega) with rfl | rfl | rfl | rfl | rfl | rfl | rfl | rfl | rfl | rfl
 ·exact ⟨[2, 3, 5], by decide, rfl⟩
 ·exact ⟨[2, 3, 5, 7], by decide, rfl⟩
 ·exact ⟨[2, 3], by decide, rfl⟩
 ·exact ⟨[2, 3, 7], by decide, rfl⟩
 ·exact ⟨[2, 5, 7], by decide, rfl⟩
 ·exact ⟨[3, 5, 7], by decide, rfl⟩
 ·exact ⟨[2, 3, 5, 11], by decide, rfl⟩
 ·exact ⟨[2], by decide, rfl⟩
 ·exact ⟨[2, 3, 7, 13], by decide, rfl⟩
 ·exact ⟨[3, 5, 7, 13], by decide, rfl⟩
theorem interval_val (ps : List Nat) (hps : ps.length ≤ 4) (a b c d : Int) : ∃ xs : List Int, xs.length = ps.length ∧ (∀ x ∈ xs, -9 ≤ x ∧ x ≤ 9) ∧ ∀ k, schismalaw12_Interval.f k (il ps) a b c d = some xs := by
 refine ⟨([a, b, c, d].take (il ps).length).map fun x => Int.tmod (wrap64 x) 10, ?_, ?_, fun k => rfl⟩
 ·rw [List.length_map, List.length_take, il_length]; simp; omega
 ·intro x hx
  rw [List.mem_map] at hx
  obtain ⟨y, _, rfl⟩ := hx
  have h1 := Int.natAbs_tmod (wrap64 y) 10
  have h2 : (wrap64 y).natAbs % (10 : Int).natAbs < 10 := Nat.mod_lt _ (by decide)
  omega
theorem nd_pow9 {p n : Nat} (hp : p ≤ 97) (hn : n ≤ 9) : nDigits (p ^ n) ≤ 19 := by
 have := nd_pow p n
 have hb2 : nDigits p ≤ 2 := nd_le (by omega) (by decide)
 have := Nat.mul_le_mul hn hb2
 omega
theorem numL_nd9 : ∀ (ps : List Nat) (xs : List Int), (∀ p ∈ ps, 2 ≤ p ∧ p ≤ 97) → (∀ x ∈ xs, -9 ≤ x ∧ x ≤ 9) → nDigits (numL ps xs) ≤ 19 * ps.length + 1 ∧ nDigits (denL ps xs) ≤ 19 * ps.length + 1
 | [], _, _, _ => by simp only [numL, denL]; rw [nDigits_small (by decide)]; omega
 | _ :: _, [], _, _ => by simp only [numL, denL]; rw [nDigits_small (by decide)]; omega
 | p :: ps, x :: xs, hr, hx => by
  obtain ⟨i1, i2⟩ := numL_nd9 ps xs (fun q hq => hr q (by simp [hq])) (fun y hy => hx y (by simp [hy]))
  have h1 := hx x (by simp)
  have h2 := hr p (by simp)
  have a1 := nd_pow9 h2.2 (show x.toNat ≤ 9 by omega)
  have a2 := nd_pow9 h2.2 (show (-x).toNat ≤ 9 by omega)
  have b1 := nd_mul (p ^ x.toNat) (numL ps xs)
  have b2 := nd_mul (p ^ (-x).toNat) (denL ps xs)
  rw [numL, denL, List.length_cons]
  omega
theorem make_ev (a0 a1 a2 a3 a4 : Int) (h0 : 0 ≤ a0) (h1 : a0 ≤ 255) : ∃ (ps : List Nat) (xs : List Int), okL ps = true ∧ xs.length = ps.length ∧ (∀ x ∈ xs, -9 ≤ x ∧ x ≤ 9) ∧ (∀ k, schismalaw12_Interval.f k (il ps) a1 a2 a3 a4 = some xs) ∧ ∀ k, schismalaw12_Make.f k a0 a1 a2 a3 a4 = some (il ps, xs) := by
 obtain ⟨ps, hm, hp⟩ := primes_val a0 h0 h1
 have hok := plists_ok ps hm
 obtain ⟨xs, g1, g2, g3⟩ := interval_val ps (okL_facts hok).1 a1 a2 a3 a4
 refine ⟨ps, xs, hok, g1, g2, g3, fun k => ?_⟩
 unfold schismalaw12_Make.f
 rw [hp, Option.bind_some, g3, Option.bind_some]
theorem plan_fit {ps : List Nat} {xs : List Int} (h : okL ps = true) (hl : xs.length = ps.length) (hx : ∀ x ∈ xs, -9 ≤ x ∧ x ≤ 9) : Fit ps xs ∧ nDigits (numL ps xs) ≤ 77 ∧ nDigits (denL ps xs) ≤ 77 := by
 have hf := okL_fit h hl (fun x h => by have := hx x h; omega)
 have := numL_nd9 ps xs hf.rng hx
 have := (okL_facts h).1
 exact ⟨hf, by omega, by omega⟩
end Go.Proofs.YtccebdpjdpjgnaaGreatDoor.Q
