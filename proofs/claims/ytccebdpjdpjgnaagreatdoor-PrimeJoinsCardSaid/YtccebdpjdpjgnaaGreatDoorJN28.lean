/-
Plain laws: exponents of numerator and denominator, and products of powers.
-/
import Derived.Test.YtccebdpjdpjgnaaGreatDoorJN24
import Derived.Test.YtccebdpjdpjgnaaGreatDoorJN26
import Derived.Test.YtccebdpjdpjgnaaGreatDoorJN27
set_option linter.unusedVariables false
set_option linter.unusedSimpArgs false
namespace Go.Proofs.YtccebdpjdpjgnaaGreatDoor.Q
open Go.Lib hiding bytesOf bytesOf_length
open Go Go.RowKit Sch Go.Proofs.YtccebdpjdpjgnaaGreatDoor.P Go.Proofs.YtccebdpjdpjgnaaGreatDoorW.PrintWords Go.Proofs.YtccebdpjdpjgnaaGreatDoorW.PrintLast Go.Proofs.YtccebdpjdpjgnaaGreatDoorW.PrintMore
set_option linter.unusedVariables false
set_option linter.unusedSimpArgs false
abbrev il (ps : List Nat) : List Int := ps.map fun (n : Nat) => (n : Int)
theorem il_length (ps : List Nat) : (il ps).length = ps.length := by simp
theorem il_getD (ps : List Nat) (i : Nat) : (il ps).getD i 0 = ((ps.getD i 0 : Nat) : Int) := by
 rw [List.getD_eq_getElem?_getD, List.getD_eq_getElem?_getD, List.getElem?_map]
 cases ps[i]? <;> simp
theorem drop_getDN (q : List Nat) (k : Nat) (h : k < q.length) : q.drop k = q.getD k 0 :: q.drop (k + 1) := by
 rw [List.getD_eq_getElem?_getD, List.getElem?_eq_getElem h]
 exact List.drop_eq_getElem_cons h
theorem getDN_mem (q : List Nat) (k : Nat) (h : k < q.length) : q.getD k 0 ∈ q := by
 rw [List.getD_eq_getElem?_getD, List.getElem?_eq_getElem h]; exact List.getElem_mem h
theorem getDI_mem (q : List Int) (k : Nat) (h : k < q.length) : q.getD k 0 ∈ q := by
 rw [List.getD_eq_getElem?_getD, List.getElem?_eq_getElem h]; exact List.getElem_mem h
theorem expo_nd {p n : Nat} (hp : 2 ≤ p) (hn : 1 ≤ n) : expo p n < 4 * nDigits n := by
 have h1 := expo_lt hp hn
 have h2 := lt_pow_nDigits n
 have h3 : 10 ^ nDigits n ≤ 2 ^ (4 * nDigits n) := by
  rw [Nat.pow_mul]; exact Nat.pow_le_pow_left (by decide) _
 apply Nat.lt_of_not_le
 intro hc
 have := Nat.pow_le_pow_right (show 0 < 2 by decide) hc
 omega
def ofX : List Nat → Nat → Nat → List Int × Nat × Nat
 | [], n, d => ([], n, d)
 | p :: ps, n, d => (((expo p n : Int) - (expo p d : Int)) :: (ofX ps (rest p n) (rest p d)).1, (ofX ps (rest p n) (rest p d)).2)
theorem ofX_num_den : ∀ (ps : List Nat) (xs : List Int), Apart ps → xs.length = ps.length → ofX ps (numL ps xs) (denL ps xs) = (xs, 1, 1)
 | [], xs, _, h => by rw [List.length_eq_zero_iff.1 h]; rfl
 | p :: ps, [], _, h => by simp at h
 | p :: ps, x :: xs, h, hl => by
  have hp := h.1
  have c1 := not_dvd_of_cop hp (numL_cop ps xs h.2.1)
  have c2 := not_dvd_of_cop hp (denL_cop ps xs h.2.1)
  have f1 := expo_rest_pow hp c1 x.toNat
  have f2 := expo_rest_pow hp c2 (-x).toNat
  have ih := ofX_num_den ps xs h.2.2 (by simpa using hl)
  rw [ofX, numL, denL, f1.1, f1.2, f2.1, f2.2, ih]
  simp only [Prod.mk.injEq, List.cons.injEq, and_true]
  omega
def ofR (xs : List Int) (n d : Nat) : List Int × Int := if n = 1 ∧ d = 1 then (if far xs = true then ([], 4) else (xs, 0)) else ([], 25)
theorem zs_inj {a b : Int} (h : zs a = zs b) : a = b := by
 have : (whole_split.f (zs a)) = whole_split.f (zs b) := by rw [h]
 rw [split_zs, split_zs] at this
 injection this with this
 injection this with h1 h2
 have h3 := ns_inj h2
 rw [decide_eq_decide] at h1
 omega
theorem fcheck_ev (s t : ByteArray) (hs : s.size ≤ 1000000) (ht : t.size ≤ 1000000) :
  (∃ (a : Int) (b : Nat), s = zs a ∧ t = ns b ∧ 1 ≤ b ∧ Nat.gcd a.natAbs b = 1 ∧ nDigits a.natAbs ≤ 400 ∧ nDigits b ≤ 400 ∧ Ev (fun k => fraction_Check.f k s t) 0) ∨
  ((∀ (a : Int) (b : Nat), s = zs a → t = ns b → 1 ≤ b → Nat.gcd a.natAbs b = 1 → 400 < nDigits a.natAbs ∨ 400 < nDigits b) ∧ Ev (fun k => fraction_Check.f k s t) 2) := by
 have hbad : Ev (fun k => fraction_Check.j0 k true s t) 2 := by
  refine Ev.succ ?_
  simp only [fraction_Check.j0]
  exact Ev.ite_pos (by simp) (Ev.val rfl)
 unfold fraction_Check.f
 rcases wcheck_ev s (by omega) with ⟨a, rfl, ha, hea⟩ | ⟨hna, hea⟩
 ·rcases wcheck_ev t (by omega) with ⟨b, rfl, hb, heb⟩ | ⟨hnb, heb⟩
  ·by_cases hb0 : b ≤ 0
   ·right
    refine ⟨fun a2 b2 e1 e2 h1 h2 => ?_, ?_⟩
    ·rw [← zs_nat] at e2
     have := zs_inj e2
     omega
    ·refine Ev.bind hea (Ev.ite_pos rfl (Ev.bind heb (Ev.succ ?_)))
     simp only [fraction_Check.j0]
     refine Ev.ite_neg (by decide) (Ev.bindc (sign_zs b) (Ev.ite_pos ?_ (Ev.val rfl)))
     unfold cmpI; split
     ·decide
     ·rw [if_pos (by omega)]; decide
   ·obtain ⟨B, rfl⟩ := Int.eq_ofNat_of_zero_le (show 0 ≤ b by omega)
    simp only [Int.natAbs_natCast] at hb
    have hev : Ev (fun k => fraction_Check.j0 k false (zs a) (zs (B : Int))) (if Nat.gcd a.natAbs B = 1 then 0 else 2) := by
     refine Ev.succ ?_
     simp only [fraction_Check.j0]
     refine Ev.ite_neg (by decide) (Ev.bindc (sign_zs _) (Ev.ite_neg ?_ (Ev.bind (wgcd_ev a B (by omega) (by simpa using (by omega : nDigits B ≤ 100000))) ?_)))
     ·unfold cmpI; rw [if_neg (by omega), if_neg (by omega)]; decide
     ·rw [Int.natAbs_natCast, Nat.gcd_comm]
      by_cases hg : Nat.gcd a.natAbs B = 1
      ·rw [if_pos hg]; exact Ev.ite_pos (ns_eq1.2 hg) (Ev.val rfl)
      ·rw [if_neg hg]; exact Ev.ite_neg (by rw [ns_eq1]; exact hg) (Ev.val rfl)
    have hev2 : Ev (fun k => (whole_Check.f k (zs a)).bind fun t299 => (if t299 = 0 then ((whole_Check.f k (zs (B : Int))).bind fun t300 => (fraction_Check.j0 k (t300 != 0) (zs a) (zs (B : Int)))) else (fraction_Check.j0 k (t299 != 0) (zs a) (zs (B : Int))))) (if Nat.gcd a.natAbs B = 1 then 0 else 2) :=
     Ev.bind hea (Ev.ite_pos rfl (Ev.bind heb hev))
    by_cases hg : Nat.gcd a.natAbs B = 1
    ·left
     exact ⟨a, B, rfl, zs_nat B, by omega, hg, ha, hb, Ev.eq hev2 (if_pos hg)⟩
    ·right
     refine ⟨fun a2 b2 e1 e2 h1 h2 => ?_, Ev.eq hev2 (if_neg hg)⟩
     rw [zs_nat] at e2
     rw [← zs_inj e1, ← ns_inj e2] at h2
     exact absurd h2 hg
  ·right
   refine ⟨fun a2 b2 e1 e2 h1 h2 => ?_, Ev.bind hea (Ev.ite_pos rfl (Ev.bind heb hbad))⟩
   have := hnb b2 (by rw [zs_nat]; exact e2)
   right; simpa using this
 ·right
  refine ⟨fun a2 b2 e1 e2 h1 h2 => .inl (hna a2 e1), Ev.bind hea (Ev.ite_neg (by decide) hbad)⟩
theorem fcheck_ok (n d : Nat) (hd : 1 ≤ d) (hg : Nat.gcd n d = 1) (h1 : nDigits n ≤ 400) (h2 : nDigits d ≤ 400) : Ev (fun k => fraction_Check.f k (ns n) (ns d)) 0 := by
 rcases fcheck_ev (ns n) (ns d) (by rw [ns_size]; omega) (by rw [ns_size]; omega) with ⟨_, _, _, _, _, _, _, _, h⟩ | ⟨hno, _⟩
 ·exact h
 ·exfalso
  have := hno (n : Int) d (by rw [zs_nat]) rfl hd (by simpa using hg)
  simp only [Int.natAbs_natCast] at this
  omega
theorem nd_pow2 {p n : Nat} (hp : p ≤ 97) (hn : n ≤ 1000) : nDigits (p ^ n) ≤ 2001 := by
 have := nd_pow p n
 have hb2 : nDigits p ≤ 2 := nd_le (by omega) (by decide)
 have := Nat.mul_le_mul hn hb2
 omega
theorem numL_nd : ∀ (ps : List Nat) (xs : List Int), (∀ p ∈ ps, 2 ≤ p ∧ p ≤ 97) → (∀ x ∈ xs, -1000 ≤ x ∧ x ≤ 1000) → nDigits (numL ps xs) ≤ 3000 * (ps.length + 1) ∧ nDigits (denL ps xs) ≤ 3000 * (ps.length + 1)
 | [], _, _, _ => by simp only [numL, denL]; rw [nDigits_small (by decide)]; omega
 | _ :: _, [], _, _ => by simp only [numL, denL]; rw [nDigits_small (by decide)]; omega
 | p :: ps, x :: xs, hr, hx => by
  obtain ⟨i1, i2⟩ := numL_nd ps xs (fun q hq => hr q (by simp [hq])) (fun y hy => hx y (by simp [hy]))
  have h1 := hx x (by simp)
  have h2 := hr p (by simp)
  have a1 := nd_pow2 h2.2 (show x.toNat ≤ 1000 by omega)
  have a2 := nd_pow2 h2.2 (show (-x).toNat ≤ 1000 by omega)
  have b1 := nd_mul (p ^ x.toNat) (numL ps xs)
  have b2 := nd_mul (p ^ (-x).toNat) (denL ps xs)
  rw [numL, denL, List.length_cons]
  omega
structure Fit (ps : List Nat) (xs : List Int) : Prop where
 len : xs.length = ps.length
 few : ps.length ≤ 8
 rng : ∀ p ∈ ps, 2 ≤ p ∧ p ≤ 97
 err : primeErr (il ps) = 0
 apart : Apart ps
 near : ∀ x ∈ xs, -1000 ≤ x ∧ x ≤ 1000
theorem Fit.notfar {ps : List Nat} {xs : List Int} (h : Fit ps xs) : far xs = false := by
 unfold far
 rw [List.any_eq_false]
 intro n hn
 have := h.near n hn
 simp only [decide_eq_true_eq]
 omega
theorem Fit.chk {ps : List Nat} {xs : List Int} (h : Fit ps xs) : Q.chk (il ps) xs = 0 := by
 unfold Q.chk
 rw [if_pos (by rw [il_length]; exact h.len), h.notfar]; rfl
theorem Fit.nd {ps : List Nat} {xs : List Int} (h : Fit ps xs) : nDigits (numL ps xs) ≤ 27000 ∧ nDigits (denL ps xs) ≤ 27000 := by
 have := numL_nd ps xs h.rng h.near
 have := h.few
 omega
end Go.Proofs.YtccebdpjdpjgnaaGreatDoor.Q
