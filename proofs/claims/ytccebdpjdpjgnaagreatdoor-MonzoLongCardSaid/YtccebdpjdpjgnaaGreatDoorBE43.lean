/-
Plain law: MonzoLong.
-/
import Derived.Test.YtccebdpjdpjgnaaGreatDoorBE40
import Derived.Test.YtccebdpjdpjgnaaGreatDoorBE42
set_option linter.unusedVariables false
set_option linter.unusedSimpArgs false
namespace Go.Proofs.YtccebdpjdpjgnaaGreatDoor.Q
open Go.Lib hiding bytesOf bytesOf_length
open Go Go.RowKit Sch Go.Proofs.YtccebdpjdpjgnaaGreatDoor.P Go.Proofs.YtccebdpjdpjgnaaGreatDoorW.PrintWords Go.Proofs.YtccebdpjdpjgnaaGreatDoorW.PrintLast Go.Proofs.YtccebdpjdpjgnaaGreatDoorW.PrintMore
set_option linter.unusedVariables false
set_option linter.unusedSimpArgs false
theorem abs_val (a : Int) (h : -1000000 ≤ a ∧ a ≤ 1000000) : schismalaw12_abs.f a = some (a.natAbs : Int) := by
 unfold schismalaw12_abs.f
 split
 ·rw [w64 (by omega) (by omega)]; congr 1; omega
 ·congr 1; omega
theorem long_big (P : Nat) (h : 400 < nDigits P) : Ev (fun k => schismalaw12_MonzoLong.j2 k (ns P) 4 ⟨#[]⟩ 4 ⟨#[]⟩ 4 ⟨#[]⟩ 4 false ⟨#[]⟩ ⟨#[]⟩) true := by
 refine Ev.succ ?_
 simp only [schismalaw12_MonzoLong.j2]
 rw [ns_size]
 have e : (⟨#[]⟩ : ByteArray).toList = [] := by rw [toList_data]
 rw [e]
 exact Ev.ite_neg (by simp) (Ev.ite_pos (by omega) (Ev.ite_pos (by simp) (Ev.ite_pos (by simp) (Ev.ite_pos (by simp) (Ev.ite_pos (by simp) (Ev.ite_pos (by simp) (Ev.ite_pos (by simp) (Ev.ite_pos (by simp) (Ev.val rfl)))))))))
theorem long_small (P num den : Nat) (h : nDigits P ≤ 400) (hp : num = P ∨ den = P) : Ev (fun k => schismalaw12_MonzoLong.j2 k (ns P) 0 (ftB num den) 0 (ns P) 0 (ns P) 0 false (ns num) (ns den)) true := by
 refine Ev.succ ?_
 simp only [schismalaw12_MonzoLong.j2]
 rw [ns_size]
 refine Ev.ite_neg (by simp) (Ev.ite_neg (by omega) ?_)
 by_cases h1 : (ns num).toList = (ns P).toList
 ·exact Ev.ite_pos h1 (Ev.ite_pos (by simp) (Ev.ite_neg (nonempty_ft _ _) (Ev.ite_pos (by simp) (Ev.ite_pos (by simp) (Ev.ite_pos (by simp) (Ev.ite_pos (by simp) (Ev.val rfl)))))))
 ·have hd : den = P := by
   rcases hp with rfl | h
   ·exact absurd rfl h1
   ·exact h
  subst hd
  exact Ev.ite_neg h1 (Ev.ite_pos (by simp) (Ev.ite_pos (by simp) (Ev.ite_neg (nonempty_ft _ _) (Ev.ite_pos (by simp) (Ev.ite_pos (by simp) (Ev.ite_pos (by simp) (Ev.ite_pos (by simp) (Ev.val rfl))))))))
theorem long_j1 (a want order : Int) (x6 x10 x12 x14 q1 q2 : ByteArray) (x9 x11 x13 x15 : Int) (o1 : 1 < a → order = 1) (o2 : a < -1 → order = -1) (o3 : a = 0 → order = 0)
  (hj : Ev (fun k => schismalaw12_MonzoLong.j2 k x6 x9 x10 x11 x12 x13 x14 x15 false q1 q2) true) :
  Ev (fun k => schismalaw12_MonzoLong.j1 k a x6 0 x9 x10 x11 x12 x13 x14 x15 want 0 order 0 want q1 q2) true := by
 refine Ev.succ ?_
 simp only [schismalaw12_MonzoLong.j1]
 refine Ev.ite_pos (by simp) (Ev.ite_pos (by simp) (Ev.ite_pos (by simp) (Ev.ite_pos (by simp) ?_)))
 by_cases h1 : a > 1
 ·exact Ev.ite_pos h1 (Ev.ite_pos (o1 h1) (Ev.ite_neg (by omega) (Ev.ite_neg (by omega) hj)))
 ·refine Ev.ite_neg h1 ?_
  by_cases h2 : a < -1
  ·exact Ev.ite_pos h2 (Ev.ite_pos (o2 h2) (Ev.ite_neg (by omega) hj))
  ·refine Ev.ite_neg h2 ?_
   by_cases h3 : a = 0
   ·refine Ev.ite_pos h3 ?_
    rw [o3 h3]
    exact hj
   ·exact Ev.ite_neg h3 hj
theorem p23 : okL [2, 3] = true := by decide +kernel
theorem fit23 {x y : Int} (hx : -1000 ≤ x ∧ x ≤ 1000) (hy : -1000 ≤ y ∧ y ≤ 1000) : Fit [2, 3] [x, y] := okL_fit p23 rfl (fun z hz => by
 simp only [List.mem_cons, List.not_mem_nil, or_false] at hz
 rcases hz with rfl | rfl <;> assumption)
theorem num23 (x y : Int) : numL [2, 3] [x, y] = 2 ^ x.toNat * 3 ^ y.toNat := by simp [numL]
theorem den23 (x y : Int) : denL [2, 3] [x, y] = 2 ^ (-x).toNat * 3 ^ (-y).toNat := by simp [denL]
theorem long_sign (a : Int) : cmpI ((numL [2, 3] [-1, a] : Nat) : Int) ((denL [2, 3] [-1, a] : Nat) : Int) = if a ≤ 0 then -1 else 1 := by
 rw [num23, den23]
 have e1 : (2 : Nat) ^ (-1 : Int).toNat = 1 := by decide
 have e2 : (2 : Nat) ^ (-(-1 : Int)).toNat = 2 := by decide
 rw [e1, e2, Nat.one_mul]
 unfold cmpI
 by_cases h : a ≤ 0
 ·have h1 : a.toNat = 0 := by omega
  have h2 : 1 ≤ 3 ^ (-a).toNat := Nat.one_le_pow _ _ (by decide)
  rw [h1, Nat.pow_zero, if_pos (by omega), if_pos h]
 ·have h1 : (-a).toNat = 0 := by omega
  have h2 : 3 ^ 1 ≤ 3 ^ a.toNat := Nat.pow_le_pow_right (by decide) (by omega)
  rw [h1, Nat.pow_zero, if_neg (by omega), if_neg (by omega), if_neg h]
theorem long_order (a b : Int) (hb : b = Int.tdiv a 2) : (1 < a → cmpI ((numL [2, 3] [0, a] * denL [2, 3] [0, b] : Nat) : Int) ((numL [2, 3] [0, b] * denL [2, 3] [0, a] : Nat) : Int) = 1) ∧
  (a < -1 → cmpI ((numL [2, 3] [0, a] * denL [2, 3] [0, b] : Nat) : Int) ((numL [2, 3] [0, b] * denL [2, 3] [0, a] : Nat) : Int) = -1) ∧
  (a = 0 → cmpI ((numL [2, 3] [0, a] * denL [2, 3] [0, b] : Nat) : Int) ((numL [2, 3] [0, b] * denL [2, 3] [0, a] : Nat) : Int) = 0) := by
 simp only [num23, den23, Int.neg_zero, Int.toNat_zero, Nat.pow_zero, Nat.one_mul]
 refine ⟨fun h => ?_, fun h => ?_, fun h => ?_⟩
 ·have b1 : 1 ≤ b ∧ b < a := by
   rw [hb, Int.tdiv_eq_ediv_of_nonneg (by omega)]; omega
  have e1 : (-b).toNat = 0 := by omega
  have e2 : (-a).toNat = 0 := by omega
  have h3 : 3 ^ b.toNat < 3 ^ a.toNat := Nat.pow_lt_pow_right (by decide) (by omega)
  rw [e1, e2, Nat.pow_zero, Nat.mul_one, Nat.mul_one]
  unfold cmpI
  rw [if_neg (by omega), if_neg (by omega)]
 ·have b1 : b ≤ -1 ∧ a < b := by
   have e : Int.tdiv a 2 = -Int.tdiv (-a) 2 := by rw [Int.neg_tdiv, Int.neg_neg]
   rw [hb, e, Int.tdiv_eq_ediv_of_nonneg (by omega)]; omega
  have e1 : b.toNat = 0 := by omega
  have e2 : a.toNat = 0 := by omega
  have h3 : 3 ^ (-b).toNat < 3 ^ (-a).toNat := Nat.pow_lt_pow_right (by decide) (by omega)
  rw [e1, e2, Nat.pow_zero, Nat.one_mul, Nat.one_mul]
  unfold cmpI
  rw [if_pos (by omega)]
 ·subst h
  subst hb
  rfl
theorem ns3 : (⟨#[51]⟩ : ByteArray) = ns 3 := by unfold ns; rw [dec_small (by decide)]; rfl
theorem long_in (a : Int) (ha : -1000 ≤ a ∧ a ≤ 1000) : Ev (fun k => schismalaw12_MonzoLong.j0 k a false) true := by
 refine Ev.succ ?_
 simp only [schismalaw12_MonzoLong.j0]
 have hb : -1000 ≤ Int.tdiv a 2 ∧ Int.tdiv a 2 ≤ 1000 := by
  by_cases h : 0 ≤ a
  ·rw [Int.tdiv_eq_ediv_of_nonneg h]; omega
  ·have e : Int.tdiv a 2 = -Int.tdiv (-a) 2 := by rw [Int.neg_tdiv, Int.neg_neg]
   rw [e, Int.tdiv_eq_ediv_of_nonneg (by omega)]; omega
 rw [w64 (x := a) (by omega) (by omega), w64 (x := Int.tdiv a 2) (by omega) (by omega)]
 have f1 : Fit [2, 3] [0, a] := fit23 (by omega) ha
 have f2 : Fit [2, 3] [-1, a] := fit23 (by omega) ha
 have f3 : Fit [2, 3] [0, Int.tdiv a 2] := fit23 (by omega) hb
 have hn : numL [2, 3] [0, a] = 3 ^ a.toNat := by rw [num23]; simp
 have hd : denL [2, 3] [0, a] = 3 ^ (-a).toNat := by rw [den23]; simp
 have key : (numL [2, 3] [0, a] = 3 ^ a.natAbs ∧ denL [2, 3] [0, a] = 1) ∨ (numL [2, 3] [0, a] = 1 ∧ denL [2, 3] [0, a] = 3 ^ a.natAbs) := by
  rw [hn, hd]
  by_cases h : 0 ≤ a
  ·left; rw [show a.toNat = a.natAbs by omega, show (-a).toNat = 0 by omega]; exact ⟨rfl, rfl⟩
  ·right; rw [show a.toNat = 0 by omega, show (-a).toNat = a.natAbs by omega]; exact ⟨rfl, rfl⟩
 obtain ⟨o1, o2, o3⟩ := long_order a (Int.tdiv a 2) rfl
 have pw := power_ev 3 a.natAbs (by decide) (by decide) (by omega)
 rw [← ns3] at pw
 have fr := f1.fraction
 have tx := f1.text
 have gr := f1.greater
 have pr := f1.product
 have sg := f2.sign
 rw [long_sign] at sg
 have cp := f1.compare f3
 have d1 : nDigits 1 = 1 := nDigits_small (by decide)
 have hpos : 1 ≤ 3 ^ a.natAbs := Nat.one_le_pow _ _ (by decide)
 generalize 3 ^ a.natAbs = P at *
 generalize cmpI ((numL [2, 3] [0, a] * denL [2, 3] [0, Int.tdiv a 2] : Nat) : Int) ((numL [2, 3] [0, Int.tdiv a 2] * denL [2, 3] [0, a] : Nat) : Int) = order at *
 generalize numL [2, 3] [0, a] = num at *
 generalize denL [2, 3] [0, a] = den at *
 have hmax : max num den = P := by omega
 have hmul : num * den = P := by
  rcases key with ⟨h1, h2⟩ | ⟨h1, h2⟩ <;> rw [h1, h2] <;> simp
 have hor : num = P ∨ den = P := by omega
 rw [hmax] at gr
 rw [hmul] at pr
 have hcond : (nDigits num ≤ 400 ∧ nDigits den ≤ 400) ↔ nDigits P ≤ 400 := by
  rcases key with ⟨h1, h2⟩ | ⟨h1, h2⟩ <;> rw [h1, h2, d1] <;> omega
 refine Ev.ite_neg (by simp) (Ev.bindc rfl (Ev.bindc (abs_val a (by omega)) (Ev.bindc rfl (Ev.bind pw (Ev.bind fr (Ev.bind tx (Ev.bind gr (Ev.bind pr (Ev.bind sg (Ev.bind cp ?_))))))))))
 dsimp only
 by_cases h : nDigits P ≤ 400
 ·rw [if_pos (hcond.2 h), if_pos (hcond.2 h), if_pos h]
  dsimp only
  have hj := long_small P num den h hor
  by_cases hz : a ≤ 0
  ·rw [if_pos hz]
   exact Ev.ite_pos hz (long_j1 a (-1) order _ _ _ _ _ _ _ _ _ _ o1 o2 o3 hj)
  ·rw [if_neg hz]
   exact Ev.ite_neg hz (long_j1 a 1 order _ _ _ _ _ _ _ _ _ _ o1 o2 o3 hj)
 ·rw [if_neg (fun e => h (hcond.1 e)), if_neg (fun e => h (hcond.1 e)), if_neg h]
  dsimp only
  have hj := long_big P (by omega)
  by_cases hz : a ≤ 0
  ·rw [if_pos hz]
   exact Ev.ite_pos hz (long_j1 a (-1) order _ _ _ _ _ _ _ _ _ _ o1 o2 o3 hj)
  ·rw [if_neg hz]
   exact Ev.ite_neg hz (long_j1 a 1 order _ _ _ _ _ _ _ _ _ _ o1 o2 o3 hj)
theorem long_ev (a : Int) : Ev (fun k => schismalaw12_MonzoLong.f k a) true := by
 unfold schismalaw12_MonzoLong.f
 have hout : Ev (fun k => schismalaw12_MonzoLong.j0 k a true) true := by
  refine Ev.succ ?_
  simp only [schismalaw12_MonzoLong.j0]
  exact Ev.ite_pos (by simp) (Ev.bindr known_ev rfl)
 refine Ev.bind known_ev (Ev.ite_pos rfl ?_)
 by_cases h1 : a > 1000
 ·exact Ev.ite_pos h1 hout
 ·refine Ev.ite_neg h1 ?_
  by_cases h2 : a < -1000
  ·rw [decide_eq_true h2]; exact hout
  ·rw [decide_eq_false h2]; exact long_in a (by omega)
end Go.Proofs.YtccebdpjdpjgnaaGreatDoor.Q
