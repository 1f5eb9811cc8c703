/-
parts of the walks and of the plain laws:    QDig
-/
import Derived.Lib.ItoaNum
import Derived.Lib.AtoiAll
import Derived.Test.YtccebdpjdpjgnaaGreatDoorMP09
set_option linter.unusedVariables false
set_option linter.unusedSimpArgs false
section
namespace Sch
open Go.Lib
def ns (n : Nat) : ByteArray := ⟨(decDigits n).toArray⟩
def zs (z : Int) : ByteArray := ⟨(itoa z).toArray⟩
def fix : Nat → Nat → List UInt8
 | 0, _ => []
 | k + 1, n => fix k (n / 10) ++ [UInt8.ofNat (48 + n % 10)]
theorem fix_length (k : Nat) : ∀ n, (fix k n).length = k := by
 induction k with
 | zero => intro n; rfl
 | succ k ih => intro n; simp [fix, ih]
theorem dec_small {n : Nat} (h : n < 10) : decDigits n = [UInt8.ofNat (48 + n)] := by rw [decDigits, dif_pos h]
theorem dec_big {n : Nat} (h : ¬ n < 10) : decDigits n = decDigits (n / 10) ++ [UInt8.ofNat (48 + n % 10)] := by rw [decDigits, dif_neg h]
theorem dec_len_pos (n : Nat) : 1 ≤ (decDigits n).length := by rw [decDigits_length]; exact nDigits_pos n
theorem nd_ge (n : Nat) (h : ¬ n < 10) : 10 ^ (nDigits n - 1) ≤ n := by
 induction n using Nat.strongRecOn with
 | _ n ih =>
  rw [nDigits_big h, Nat.add_sub_cancel]
  by_cases h1 : n / 10 < 10
  ·rw [nDigits_small h1]; omega
  ·have := ih (n / 10) (by omega) h1
   have hp := nDigits_pos (n / 10)
   rw [show nDigits (n / 10) = nDigits (n / 10) - 1 + 1 by omega, Nat.pow_succ]
   omega
theorem nd_le {n k : Nat} (h : n < 10 ^ k) (hk : 1 ≤ k) : nDigits n ≤ k := by
 apply Nat.le_of_not_lt
 intro hc
 have h1 : 10 ^ (nDigits n - 1) ≤ n := by
  by_cases h10 : n < 10
  ·rw [nDigits_small h10] at hc; omega
  ·exact nd_ge n h10
 have h2 : 10 ^ k ≤ 10 ^ (nDigits n - 1) := Nat.pow_le_pow_right (by decide) (by omega)
 omega
theorem nd_lt {n k : Nat} (h : nDigits n ≤ k) : n < 10 ^ k :=
 Nat.lt_of_lt_of_le (lt_pow_nDigits n) (Nat.pow_le_pow_right (by decide) h)
theorem nd_mono {a b : Nat} (h : a ≤ b) : nDigits a ≤ nDigits b :=
 nd_le (Nat.lt_of_le_of_lt h (lt_pow_nDigits b)) (nDigits_pos b)
theorem nd_mul (a b : Nat) : nDigits (a * b) ≤ nDigits a + nDigits b :=
 nd_le (by
  rw [Nat.pow_add]
  exact Nat.mul_lt_mul'' (lt_pow_nDigits a) (lt_pow_nDigits b)) (by have := nDigits_pos a; omega)
def dv (l : List UInt8) : Nat := l.foldl (fun a c => 10 * a + (c.toNat - 48)) 0
theorem dv_from (l : List UInt8) : ∀ a, l.foldl (fun a c => 10 * a + (c.toNat - 48)) a = a * 10 ^ l.length + dv l := by
 induction l with
 | nil => intro a; simp [dv]
 | cons c l ih =>
  intro a
  simp only [List.foldl_cons, dv, List.length_cons]
  rw [ih, ih (10 * 0 + _), Nat.pow_succ]
  simp only [Nat.add_mul, Nat.mul_zero, Nat.zero_add]
  rw [Nat.mul_comm 10 a, Nat.mul_assoc, Nat.mul_comm 10]
  omega
theorem dv_append (l m : List UInt8) : dv (l ++ m) = dv l * 10 ^ m.length + dv m := by
 unfold dv
 rw [List.foldl_append, dv_from]
 rfl
theorem dv_snoc (l : List UInt8) (c : UInt8) : dv (l ++ [c]) = 10 * dv l + (c.toNat - 48) := by
 simp [dv, List.foldl_append]
def isD (c : UInt8) : Prop := 48 ≤ c.toNat ∧ c.toNat ≤ 57
instance (c : UInt8) : Decidable (isD c) := inferInstanceAs (Decidable (_ ∧ _))
theorem digit_toNat {d : Nat} (h : d < 10) : (UInt8.ofNat (48 + d)).toNat = 48 + d := by
 rw [UInt8.toNat_ofNat']; omega
theorem dig_isD {d : Nat} (h : d < 10) : isD (UInt8.ofNat (48 + d)) := by unfold isD; rw [digit_toNat h]; omega
theorem dec_isD (n : Nat) : ∀ c ∈ decDigits n, isD c := by
 induction n using Nat.strongRecOn with
 | _ n ih =>
  by_cases h : n < 10
  ·rw [dec_small h]; intro c hc; rw [List.mem_singleton] at hc; subst hc; exact dig_isD h
  ·rw [dec_big h]; intro c hc
   rw [List.mem_append, List.mem_singleton] at hc
   rcases hc with hc | rfl
   ·exact ih _ (by omega) c hc
   ·exact dig_isD (by omega)
theorem dv_dec (n : Nat) : dv (decDigits n) = n := by
 induction n using Nat.strongRecOn with
 | _ n ih =>
  by_cases h : n < 10
  ·rw [dec_small h]; simp only [dv, List.foldl_cons, List.foldl_nil]; rw [digit_toNat h]; omega
  ·rw [dec_big h, dv_snoc, ih _ (by omega), digit_toNat (by omega)]; omega
theorem dv_fix (k : Nat) : ∀ n, dv (fix k n) = n % 10 ^ k := by
 induction k with
 | zero => intro n; simp [fix, dv, Nat.mod_one]
 | succ k ih =>
  intro n
  rw [fix, dv_snoc, ih, digit_toNat (by omega), Nat.pow_succ, Nat.mul_comm (10 ^ k) 10, Nat.mod_mul]
  omega
theorem fix_isD (k : Nat) : ∀ n, ∀ c ∈ fix k n, isD c := by
 induction k with
 | zero => intro n c hc; simp [fix] at hc
 | succ k ih =>
  intro n c hc
  rw [fix, List.mem_append, List.mem_singleton] at hc
  rcases hc with hc | rfl
  ·exact ih _ c hc
  ·exact dig_isD (by omega)
theorem isD_eq {c : UInt8} (h : isD c) : c = UInt8.ofNat (48 + (c.toNat - 48)) := by
 obtain ⟨h1, h2⟩ := h
 apply UInt8.toNat_inj.1
 rw [digit_toNat (by omega)]; omega
theorem eq_fix (l : List UInt8) (h : ∀ c ∈ l, isD c) : l = fix l.length (dv l) := by
 have : ∀ k, ∀ l : List UInt8, l.length = k → (∀ c ∈ l, isD c) → l = fix k (dv l) := by
  intro k
  induction k with
  | zero => intro l hl _; rw [List.length_eq_zero_iff.1 hl]; rfl
  | succ k ih =>
   intro l hl hd
   obtain ⟨m, c, rfl⟩ : ∃ m c, l = m ++ [c] := ⟨l.dropLast, l.getLast (by rintro rfl; simp at hl), (List.dropLast_concat_getLast _).symm⟩
   have hc := hd c (by simp)
   have hm := ih m (by simpa using hl) (fun c h => hd c (by simp [h]))
   have h1 := hc.1
   have h2 := hc.2
   rw [dv_snoc, fix, show (10 * dv m + (c.toNat - 48)) / 10 = dv m by omega, show (10 * dv m + (c.toNat - 48)) % 10 = c.toNat - 48 by omega, ← hm, ← isD_eq hc]
 exact this _ l rfl h
theorem dv_lt (l : List UInt8) (h : ∀ c ∈ l, isD c) : dv l < 10 ^ l.length := by
 have e := congrArg dv (eq_fix l h)
 rw [dv_fix] at e
 rw [e]
 exact Nat.mod_lt _ (Nat.pow_pos (by decide))
theorem eq_dec (l : List UInt8) (h : ∀ c ∈ l, isD c) (h1 : l.length = 1 ∨ ∃ c r, l = c :: r ∧ c ≠ 48) : l = decDigits (dv l) := by
 have : ∀ k, ∀ l : List UInt8, l.length = k → (∀ c ∈ l, isD c) → (l.length = 1 ∨ ∃ c r, l = c :: r ∧ c ≠ 48) → l = decDigits (dv l) := by
  intro k
  induction k with
  | zero => intro l hl _ h1; rw [List.length_eq_zero_iff.1 hl] at h1; simp at h1
  | succ k ih =>
   intro l hl hd h1
   obtain ⟨m, c, rfl⟩ : ∃ m c, l = m ++ [c] := ⟨l.dropLast, l.getLast (by rintro rfl; simp at hl), (List.dropLast_concat_getLast _).symm⟩
   have hc := hd c (by simp)
   have g1 := hc.1
   have g2 := hc.2
   have hml : m.length = k := by simpa using hl
   by_cases hk : k = 0
   ·subst hk
    obtain rfl := List.length_eq_zero_iff.1 hml
    simp only [List.nil_append, dv, List.foldl_cons, List.foldl_nil]
    rw [dec_small (by omega)]
    simp only [Nat.mul_zero, Nat.zero_add]
    rw [← isD_eq hc]
   ·have hb : ∃ c r, m = c :: r ∧ c ≠ 48 := by
     rcases h1 with h1 | ⟨b, r, e, hb⟩
     ·exfalso; simp at h1; subst h1; simp at hml; omega
     ·cases m with
      | nil => simp at hml; omega
      | cons a m => simp only [List.cons_append, List.cons.injEq] at e; exact ⟨a, m, rfl, by rw [e.1]; exact hb⟩
    have hm := ih m hml (fun c h => hd c (by simp [h])) (.inr hb)
    have hpos : 1 ≤ dv m := by
     obtain ⟨b, r, rfl, hb⟩ := hb
     have hbd := hd b (by simp)
     have e1 : dv (b :: r) = (b.toNat - 48) * 10 ^ r.length + dv r := by
      rw [show b :: r = [b] ++ r from rfl, dv_append]; simp [dv]
     have hb1 : 1 ≤ b.toNat - 48 := by
      have : b.toNat ≠ 48 := fun e => hb (UInt8.toNat_inj.1 (by rw [e]; rfl))
      have := hbd.1
      omega
     have hp : 1 ≤ 10 ^ r.length := Nat.one_le_pow _ _ (by decide)
     have := Nat.mul_le_mul hb1 hp
     omega
    rw [dv_snoc, dec_big (n := 10 * dv m + (c.toNat - 48)) (by omega), show (10 * dv m + (c.toNat - 48)) / 10 = dv m by omega, show (10 * dv m + (c.toNat - 48)) % 10 = c.toNat - 48 by omega, ← hm, ← isD_eq hc]
 exact this _ l rfl h h1
theorem dec_inj {a b : Nat} (h : decDigits a = decDigits b) : a = b := by rw [← dv_dec a, h, dv_dec]
theorem ns_inj {a b : Nat} (h : ns a = ns b) : a = b := by
 apply dec_inj
 have := congrArg (fun s => s.data.toList) h
 simpa [ns] using this
theorem ns_size (n : Nat) : (ns n).size = nDigits n := by simp [ns, ByteArray.size, decDigits_length]
theorem dec_head (n : Nat) (h : n ≠ 0) : ∃ c r, decDigits n = c :: r ∧ isD c ∧ c ≠ 48 := by
 induction n using Nat.strongRecOn with
 | _ n ih =>
  by_cases h10 : n < 10
  ·refine ⟨UInt8.ofNat (48 + n), [], dec_small h10, dig_isD h10, fun e => ?_⟩
   have := congrArg UInt8.toNat e
   rw [digit_toNat h10] at this
   simp at this
   omega
  ·obtain ⟨c, r, e, h1, h2⟩ := ih (n / 10) (by omega) (by omega)
   exact ⟨c, r ++ [UInt8.ofNat (48 + n % 10)], by rw [dec_big h10, e]; rfl, h1, h2⟩
end Sch
end
section
namespace Sch
abbrev B9 : Int := 1000000000
def pv : List Int → Int
 | [] => 0
 | x :: l => x + B9 * pv l
def okP (l : List Int) : Prop := ∀ x ∈ l, 0 ≤ x ∧ x < B9
def pc (n : Nat) : List Int := if _h : n = 0 then [] else ((n % 1000000000 : Nat) : Int) :: pc (n / 1000000000)
termination_by n
decreasing_by omega
theorem pc_zero : pc 0 = [] := by rw [pc, dif_pos rfl]
theorem pc_pos {n : Nat} (h : n ≠ 0) : pc n = ((n % 1000000000 : Nat) : Int) :: pc (n / 1000000000) := by rw [pc, dif_neg h]
theorem pc_ok (n : Nat) : okP (pc n) := by
 induction n using Nat.strongRecOn with
 | _ n ih =>
  by_cases h : n = 0
  ·subst h; rw [pc_zero]; intro x hx; simp at hx
  ·rw [pc_pos h]; intro x hx
   rcases List.mem_cons.1 hx with rfl | hx
   ·unfold B9; omega
   ·exact ih _ (by omega) x hx
theorem pv_pc (n : Nat) : pv (pc n) = n := by
 induction n using Nat.strongRecOn with
 | _ n ih =>
  by_cases h : n = 0
  ·subst h; rw [pc_zero]; rfl
  ·rw [pc_pos h, pv, ih _ (by omega)]; unfold B9; omega
theorem okP_cons {x : Int} {l : List Int} : okP (x :: l) ↔ (0 ≤ x ∧ x < B9) ∧ okP l := by simp [okP]
theorem okP_append {l m : List Int} : okP (l ++ m) ↔ okP l ∧ okP m := by
 simp only [okP, List.mem_append]
 constructor
 ·intro h; exact ⟨fun x hx => h x (.inl hx), fun x hx => h x (.inr hx)⟩
 ·rintro ⟨h1, h2⟩ x (hx | hx)
  ·exact h1 x hx
  ·exact h2 x hx
theorem okP_nil : okP [] := fun x hx => by simp at hx
theorem okP_one {x : Int} (h0 : 0 ≤ x) (h1 : x < B9) : okP [x] := fun y hy => by rw [List.mem_singleton] at hy; subst hy; exact ⟨h0, h1⟩
theorem pv_nonneg {l : List Int} (h : okP l) : 0 ≤ pv l := by
 induction l with
 | nil => exact Int.le_refl _
 | cons x l ih =>
  rw [okP_cons] at h
  have := ih h.2
  simp only [pv]; unfold B9 at *; omega
theorem pv_append (l m : List Int) : pv (l ++ m) = pv l + B9 ^ l.length * pv m := by
 induction l with
 | nil => simp [pv]
 | cons x l ih =>
  simp only [List.cons_append, pv, ih, List.length_cons, Int.pow_succ]
  rw [Int.mul_add, ← Int.mul_assoc, Int.mul_comm (B9 ^ l.length) B9, Int.add_assoc]
theorem pv_lt {l : List Int} (h : okP l) : pv l < B9 ^ l.length := by
 induction l with
 | nil => simp [pv]
 | cons x l ih =>
  rw [okP_cons] at h
  have := ih h.2
  simp only [pv, List.length_cons, Int.pow_succ]
  have hx := h.1.2
  unfold B9 at *
  omega
theorem pv_replicate (n : Nat) : pv (List.replicate n 0) = 0 := by
 induction n with
 | zero => rfl
 | succ n ih => rw [List.replicate_succ, pv, ih]; rfl
theorem okP_replicate (n : Nat) : okP (List.replicate n 0) := fun x hx => by rw [List.mem_replicate] at hx; rw [hx.2]; unfold B9; omega
def stripP (l : List Int) : List Int := (l.reverse.dropWhile (· == 0)).reverse
theorem stripP_snoc_zero (l : List Int) : stripP (l ++ [0]) = stripP l := by simp [stripP]
theorem stripP_snoc {l : List Int} {x : Int} (h : x ≠ 0) : stripP (l ++ [x]) = l ++ [x] := by simp [stripP, h]
theorem pc_unique {l : List Int} (h : okP l) (ht : l = [] ∨ ∃ m x, l = m ++ [x] ∧ x ≠ 0) : l = pc (pv l).toNat := by
 induction l with
 | nil => simp [pv, pc_zero]
 | cons x l ih =>
  rw [okP_cons] at h
  have hl : l = [] ∨ ∃ m x, l = m ++ [x] ∧ x ≠ 0 := by
   rcases ht with ht | ⟨m, y, e, hy⟩
   ·simp at ht
   ·cases m with
    | nil => simp at e; exact .inl e.2
    | cons a m => simp at e; exact .inr ⟨m, y, e.2, hy⟩
  have e := ih h.2 hl
  have hn := pv_nonneg h.2
  have hx := h.1
  have hpos : (pv (x :: l)).toNat ≠ 0 := by
   simp only [pv]
   intro h0
   have h1 : x + B9 * pv l ≤ 0 := by omega
   have h2 : x = 0 := by unfold B9 at *; omega
   have h3 : pv l = 0 := by unfold B9 at *; omega
   rw [h3] at e
   rw [e] at ht
   rw [h2] at ht
   rcases ht with ht | ⟨m, y, e, hy⟩
   ·simp at ht
   ·rw [show (0 : Int).toNat = 0 from rfl, pc_zero] at e
    cases m with
    | nil => simp at e; exact hy e.symm
    | cons a m => simp at e
  rw [pc_pos hpos]
  simp only [pv] at *
  have e1 : (((x + B9 * pv l).toNat % 1000000000 : Nat) : Int) = x := by unfold B9 at *; omega
  have e2 : (x + B9 * pv l).toNat / 1000000000 = (pv l).toNat := by unfold B9 at *; omega
  rw [e1, e2, ← e]
theorem okP_strip {l : List Int} (h : okP l) : okP (stripP l) := fun x hx => h x (by
 unfold stripP at hx
 rw [List.mem_reverse] at hx
 exact List.mem_reverse.1 ((List.dropWhile_sublist _).subset hx))
theorem pv_strip (l : List Int) : pv (stripP l) = pv l := by
 have : ∀ m : List Int, pv ((m.dropWhile (· == 0)).reverse) = pv m.reverse := by
  intro m
  induction m with
  | nil => rfl
  | cons x m ih =>
   by_cases hx : x = 0
   ·subst hx
    rw [List.dropWhile_cons_of_pos (by simp), ih, List.reverse_cons, pv_append]
    simp [pv]
   ·rw [List.dropWhile_cons_of_neg (by simpa using hx)]
 have := this l.reverse
 rw [List.reverse_reverse] at this
 exact this
theorem strip_end (l : List Int) : stripP l = [] ∨ ∃ m x, stripP l = m ++ [x] ∧ x ≠ 0 := by
 unfold stripP
 cases e : l.reverse.dropWhile (· == 0) with
 | nil => exact .inl rfl
 | cons x m =>
  right
  refine ⟨m.reverse, x, by simp, ?_⟩
  have := List.head?_dropWhile_not (· == 0) l.reverse
  rw [e] at this
  simpa using this
theorem strip_eq {l : List Int} (h : okP l) : stripP l = pc (pv l).toNat := by
 rw [pc_unique (okP_strip h) (strip_end l), pv_strip]
theorem pc_length_zero {n : Nat} : (pc n).length = 0 ↔ n = 0 := by
 constructor
 ·intro h
  have := pv_pc n
  rw [List.length_eq_zero_iff.1 h] at this
  simp [pv] at this
  omega
 ·rintro rfl; rw [pc_zero]; rfl
theorem pc_last {n : Nat} (h : n ≠ 0) : ∃ m x, pc n = m ++ [x] ∧ x ≠ 0 := by
 induction n using Nat.strongRecOn with
 | _ n ih =>
  rw [pc_pos h]
  by_cases h9 : n / 1000000000 = 0
  ·rw [h9, pc_zero]
   exact ⟨[], _, rfl, by omega⟩
  ·obtain ⟨m, x, e, hx⟩ := ih _ (by omega) h9
   rw [e]
   exact ⟨_ :: m, x, rfl, hx⟩
theorem pc_ge {n : Nat} (h : n ≠ 0) : B9 ^ ((pc n).length - 1) ≤ n := by
 obtain ⟨m, x, e, hx⟩ := pc_last h
 have ho := pc_ok n
 have hv := pv_pc n
 rw [e] at ho hv ⊢
 rw [okP_append, okP_cons] at ho
 rw [pv_append] at hv
 simp only [pv, Int.mul_zero, Int.add_zero] at hv
 have h0 := pv_nonneg ho.1
 have hx1 : 1 ≤ x := by have := ho.2.1.1; omega
 have hp : 0 ≤ B9 ^ m.length := Int.pow_nonneg (by decide)
 have := Int.mul_le_mul_of_nonneg_left hx1 hp
 simp only [List.length_append, List.length_cons, List.length_nil, Nat.zero_add, Nat.add_sub_cancel]
 omega
theorem pc_lt (n : Nat) : (n : Int) < B9 ^ (pc n).length := by
 have := pv_lt (pc_ok n)
 rwa [pv_pc] at this
theorem pv_set (l : List Int) : ∀ (i : Nat) (v : Int), i < l.length → pv (l.set i v) = pv l + B9 ^ i * (v - l.getD i 0) := by
 induction l with
 | nil => intro i v h; simp at h
 | cons x l ih =>
  intro i v h
  cases i with
  | zero => simp [pv]; omega
  | succ i =>
   have := ih i v (by simpa using h)
   simp only [List.set_cons_succ, pv, this, List.getD_cons_succ, Int.pow_succ]
   rw [Int.mul_add, ← Int.mul_assoc, Int.mul_comm B9 (B9 ^ i)]
   omega
theorem okP_set {l : List Int} (h : okP l) {i : Nat} {v : Int} (h0 : 0 ≤ v) (h1 : v < B9) : okP (l.set i v) := fun x hx => by
 rcases List.mem_or_eq_of_mem_set hx with hx | rfl
 ·exact h x hx
 ·exact ⟨h0, h1⟩
theorem okP_getD {l : List Int} (h : okP l) (i : Nat) : 0 ≤ l.getD i 0 ∧ l.getD i 0 < B9 := by
 by_cases hi : i < l.length
 ·rw [List.getD_eq_getElem?_getD, List.getElem?_eq_getElem hi]; exact h _ (List.getElem_mem hi)
 ·rw [List.getD_eq_getElem?_getD, List.getElem?_eq_none (by omega)]; unfold B9; simp
theorem take_snoc_getD (q : List Int) (k : Nat) (h : k < q.length) : q.take (k + 1) = q.take k ++ [q.getD k 0] := by
 rw [List.take_succ_eq_append_getElem h, List.getD_eq_getElem?_getD, List.getElem?_eq_getElem h]; rfl
theorem pv_take_succ (q : List Int) (k : Nat) (h : k < q.length) : pv (q.take (k + 1)) = pv (q.take k) + B9 ^ k * q.getD k 0 := by
 rw [take_snoc_getD q k h, pv_append, List.length_take, Nat.min_eq_left (by omega)]
 simp [pv]
theorem drop_getD (q : List Int) (k : Nat) (h : k < q.length) : q.drop k = q.getD k 0 :: q.drop (k + 1) := by
 rw [List.getD_eq_getElem?_getD, List.getElem?_eq_getElem h]
 exact List.drop_eq_getElem_cons h
theorem pv_drop (q : List Int) (k : Nat) (h : k < q.length) : pv (q.drop k) = q.getD k 0 + B9 * pv (q.drop (k + 1)) := by
 rw [drop_getD q k h, pv]
theorem pv_take_drop (q : List Int) (k : Nat) (h : k ≤ q.length) : pv q = pv (q.take k) + B9 ^ k * pv (q.drop k) := by
 conv => lhs; rw [← List.take_append_drop k q]
 rw [pv_append, List.length_take, Nat.min_eq_left h]
theorem okP_take {l : List Int} (h : okP l) (k : Nat) : okP (l.take k) := fun x hx => h x (List.mem_of_mem_take hx)
theorem okP_drop {l : List Int} (h : okP l) (k : Nat) : okP (l.drop k) := fun x hx => h x (List.mem_of_mem_drop hx)
theorem B9_pos (k : Nat) : 0 < B9 ^ k := Int.pow_pos (by decide)
theorem B9_succ (k : Nat) : B9 ^ (k + 1) = B9 ^ k * B9 := Int.pow_succ ..
theorem B9_add (j k : Nat) : B9 ^ (j + k) = B9 ^ j * B9 ^ k := Int.pow_add ..
theorem knuth_ge {q U V P A D A' D' : Int} (hP : 0 < P) (hA : A = U * P + A') (hA1 : A' < P) (hD : D = V * P + D') (hD0 : 0 ≤ D') (hq : 0 ≤ q) (h : q * D ≤ A) : q * V ≤ U := by
 apply Int.not_lt.mp
 intro hc
 have h1 : U + 1 ≤ q * V := hc
 have h2 : (U + 1) * P ≤ q * V * P := Int.mul_le_mul_of_nonneg_right h1 (Int.le_of_lt hP)
 have h3 : q * V * P ≤ q * D := by
  rw [hD, Int.mul_assoc, Int.mul_add]
  have := Int.mul_nonneg hq hD0
  omega
 rw [Int.add_mul] at h2
 omega
theorem knuth_le {g U V P A D A' D' : Int} (hP : 0 < P) (hA : A = U * P + A') (hA0 : 0 ≤ A') (hD : D = V * P + D') (hD1 : D' < P) (hg : 1 ≤ g) (hgV : g ≤ V + 1) (h : g * V ≤ U) : (g - 1) * D ≤ A := by
 have h1 : D ≤ (V + 1) * P := by rw [Int.add_mul, hD]; omega
 have h2 : (g - 1) * D ≤ (g - 1) * ((V + 1) * P) := Int.mul_le_mul_of_nonneg_left h1 (by omega)
 have h3 : (g - 1) * (V + 1) ≤ U := by
  have e : (g - 1) * (V + 1) = g * V + g - V - 1 := by rw [Int.sub_mul, Int.mul_add, Int.mul_one, Int.one_mul]; omega
  omega
 have h4 : (g - 1) * (V + 1) * P ≤ U * P := Int.mul_le_mul_of_nonneg_right h3 (Int.le_of_lt hP)
 rw [← Int.mul_assoc] at h2
 omega
end Sch
end
section
namespace Go.Proofs.YtccebdpjdpjgnaaGreatDoor.Q
open Go Go.RowKit Sch Go.Lib Go.Proofs.YtccebdpjdpjgnaaGreatDoor.P Go.Proofs.YtccebdpjdpjgnaaGreatDoorW.PrintWords Go.Proofs.YtccebdpjdpjgnaaGreatDoorW.PrintLast Go.Proofs.YtccebdpjdpjgnaaGreatDoorW.PrintMore
theorem Ev.succ {α : Type} {g : Nat → Option α} {r : α} (h : Ev (fun k => g (k + 1)) r) : Ev g r := Ev.step (fun _ => rfl) h
theorem Ev.ite_pos {α : Type} {c : Prop} [Decidable c] {A B : Nat → Option α} {r : α} (h : c) (k : Ev A r) : Ev (fun n => if c then A n else B n) r := Ev.congr (fun _ => if_pos h) k
theorem Ev.ite_neg {α : Type} {c : Prop} [Decidable c] {A B : Nat → Option α} {r : α} (h : ¬ c) (k : Ev B r) : Ev (fun n => if c then A n else B n) r := Ev.congr (fun _ => if_neg h) k
theorem Ev.bindc {α β : Type} {o : Option α} {f : Nat → α → Option β} {a : α} {r : β} (h : o = some a) (k : Ev (fun n => f n a) r) : Ev (fun n => o.bind (f n)) r := Ev.congr (fun _ => by rw [h]; rfl) k
theorem Ev.bindr {α β : Type} {g : Nat → Option α} {f : α → Option β} {a : α} {r : β} (h : Ev g a) (k : f a = some r) : Ev (fun n => (g n).bind f) r := Ev.bind (f := fun _ => f) h (Ev.congr (fun _ => k) (Ev.now r))
theorem Ev.val {α : Type} {o : Option α} {r : α} (h : o = some r) : Ev (fun _ => o) r := Ev.congr (fun _ => h) (Ev.now r)
theorem Ev.eq {α : Type} {g : Nat → Option α} {r q : α} (h : Ev g r) (e : r = q) : Ev g q := e ▸ h
theorem w64 {x : Int} (h0 : -9223372036854775808 ≤ x) (h1 : x ≤ 9223372036854775807) : wrap64 x = x := by unfold wrap64; omega
theorem wu64 {x : Int} (h0 : 0 ≤ x) (h1 : x < 18446744073709551616) : IntKind.u64.wrap x = x := by rw [IntKind.wrap_u64]; omega
theorem bt_list (s : ByteArray) (i : Nat) (h : i < s.size) : bt s i = ((s.data.toList[i]'(by rw [data_length]; exact h)).toNat : Int) := by
 unfold bt
 rw [dif_pos (by simpa using h)]
 simp only [Int.toNat_natCast]
 rfl
theorem rd_bytes (s : ByteArray) (i : Nat) (h : i < s.size) : rd (bytesOf s) i = ((s.data.toList[i]'(by rw [data_length]; exact h)).toNat : Int) := by rw [rd_bytesOf, bt_list s i h]
def canonB (l : List UInt8) : Bool := l.all (fun c => decide (isD c)) && (l.length == 1 || (decide (1 < l.length) && l.head? != some 48))
theorem canon_ns {s : ByteArray} (h : canonB s.data.toList = true) : s = ns (dv s.data.toList) := by
 unfold canonB at h
 simp only [Bool.and_eq_true, List.all_eq_true, decide_eq_true_eq, Bool.or_eq_true, beq_iff_eq, bne_iff_ne] at h
 obtain ⟨h1, h2⟩ := h
 have := eq_dec s.data.toList h1 (by
  rcases h2 with h2 | ⟨h2, h3⟩
  ·exact .inl h2
  ·right
   cases e : s.data.toList with
   | nil => rw [e] at h2; simp at h2
   | cons c r => exact ⟨c, r, rfl, fun e2 => by rw [e, e2] at h3; exact h3 rfl⟩)
 unfold ns
 rw [← this]
theorem ns_canon (n : Nat) : canonB (ns n).data.toList = true := by
 unfold canonB ns
 simp only [Bool.and_eq_true, List.all_eq_true, decide_eq_true_eq, Bool.or_eq_true, beq_iff_eq, bne_iff_ne]
 refine ⟨dec_isD n, ?_⟩
 by_cases h : n < 10
 ·left; rw [dec_small h]; rfl
 ·right
  obtain ⟨c, r, e, h1, h2⟩ := dec_head n (by omega)
  refine ⟨?_, ?_⟩
  ·have hl := dec_big h
   have := dec_len_pos (n / 10)
   simp only [hl, List.length_append, List.length_cons, List.length_nil]; omega
  ·simp only [e, List.head?_cons]; intro e2; injection e2 with e2; exact h2 e2
theorem canonical_loop (s : ByteArray) (hs : s.size ≤ 140737488355328) : ∀ (d i : Nat), s.size = i + d → (∀ j (h : j < s.data.toList.length), j < i → isD s.data.toList[j]) →
  Ev (fun k => decimal_Canonical.l0 k s (bytesOf s) ((bytesOf s).length : Int) (i : Int)) (canonB s.data.toList) := by
 intro d
 induction d with
 | zero =>
  intro i hi hd
  refine Ev.succ ?_
  simp only [decimal_Canonical.l0, bytesOf_length]
  refine Ev.ite_neg (by omega) ?_
  have hall : s.data.toList.all (fun c => decide (isD c)) = true := by
   rw [List.all_eq_true]
   intro c hc
   obtain ⟨j, hj, rfl⟩ := List.getElem_of_mem hc
   rw [decide_eq_true_eq]
   exact hd j hj (by rw [data_length] at hj; omega)
  have hsz : s.data.toList.length = s.size := data_length s
  by_cases h1 : s.size = 1
  ·refine Ev.ite_pos (by omega) (Ev.val ?_)
   unfold canonB; rw [hall, hsz, h1]; rfl
  ·refine Ev.ite_neg (by omega) ?_
   by_cases h2 : 1 < s.size
   ·refine Ev.ite_pos (by omega) (Ev.ite_pos (by omega) (Ev.val ?_))
    unfold canonB
    rw [hall, hsz, show bt s 0 = bt s ((0 : Nat) : Int) from rfl, bt_list s 0 (by omega)]
    have hh : s.data.toList.head? = some (s.data.toList[0]'(by omega)) := by rw [List.head?_eq_getElem?, List.getElem?_eq_getElem (by omega)]
    rw [hh]
    simp only [h2, decide_true, Bool.true_and]
    rw [show (s.size == 1) = false by simpa using h1, Bool.false_or]
    congr 1
    rw [Bool.eq_iff_iff, bne_iff_ne, bne_iff_ne]
    constructor
    ·intro h3 h4; injection h4 with h4; exact h3 (by rw [h4]; rfl)
    ·intro h3 h4
     refine h3 (congrArg some (UInt8.toNat_inj.1 ?_))
     have : (48 : UInt8).toNat = 48 := rfl
     omega
   ·refine Ev.ite_neg (by omega) (Ev.val ?_)
    unfold canonB; rw [hall, hsz]
    simp [h1, h2]
 | succ d ih =>
  intro i hi hd
  have hlt : i < s.size := by omega
  refine Ev.succ ?_
  simp only [decimal_Canonical.l0]
  refine Ev.ite_pos (by rw [bytesOf_length]; omega) (Ev.ite_pos (by omega) (Ev.ite_pos (by rw [bytesOf_length]; omega) ?_))
  rw [rd_bytes s i hlt]
  have hno : ¬ isD (s.data.toList[i]'(by rw [data_length]; exact hlt)) → canonB s.data.toList = false := by
   intro hn
   unfold canonB
   have : s.data.toList.all (fun c => decide (isD c)) = false := by
    rw [Bool.eq_false_iff]
    intro h
    rw [List.all_eq_true] at h
    exact hn (of_decide_eq_true (h _ (List.getElem_mem (by rw [data_length]; exact hlt))))
   rw [this]; rfl
  by_cases h1 : ((s.data.toList[i]'(by rw [data_length]; exact hlt)).toNat : Int) < 48
  ·refine Ev.ite_pos h1 (Ev.val ?_)
   rw [hno (by unfold isD; omega)]
  ·refine Ev.ite_neg h1 ?_
   by_cases h2 : ((s.data.toList[i]'(by rw [data_length]; exact hlt)).toNat : Int) > 57
   ·refine Ev.ite_pos h2 (Ev.val ?_)
    rw [hno (by unfold isD; omega)]
   ·refine Ev.ite_neg h2 ?_
    rw [w64 (by omega) (by omega)]
    refine ih (i + 1) (by omega) (fun j hj hji => ?_)
    by_cases hj2 : j = i
    ·subst hj2; unfold isD; omega
    ·exact hd j hj (by omega)
theorem canonical_ev (s : ByteArray) (hs : s.size ≤ 140737488355328) : Ev (fun k => decimal_Canonical.f k s) (canonB s.data.toList) := by
 unfold decimal_Canonical.f
 refine Ev.ite_pos (by omega) (Ev.bindc rfl ?_)
 exact canonical_loop s hs s.size 0 (by omega) (fun j _ h => absurd h (by omega))
end Go.Proofs.YtccebdpjdpjgnaaGreatDoor.Q
end
