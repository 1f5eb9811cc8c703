/-
Plain laws: exponents of numerator and denominator, and products of powers.
-/
import Derived.Test.YtccebdpjdpjgnaaGreatDoorMP25
import Derived.Test.YtccebdpjdpjgnaaGreatDoorMP27
import Derived.Test.YtccebdpjdpjgnaaGreatDoorMP30
set_option linter.unusedVariables false
set_option linter.unusedSimpArgs false
namespace Go.Proofs.YtccebdpjdpjgnaaGreatDoor.Q
open Go.Lib hiding bytesOf bytesOf_length
open Go Go.RowKit Sch Go.Proofs.YtccebdpjdpjgnaaGreatDoor.P Go.Proofs.YtccebdpjdpjgnaaGreatDoorW.PrintWords Go.Proofs.YtccebdpjdpjgnaaGreatDoorW.PrintLast Go.Proofs.YtccebdpjdpjgnaaGreatDoorW.PrintMore
set_option linter.unusedVariables false
set_option linter.unusedSimpArgs false
abbrev il (ps : List Nat) : List Int := ps.map fun (n : Nat) => (n : Int)
theorem il_length (ps : List Nat) : (il ps).length = ps.length := by simp
theorem il_getD (ps : List Nat) (i : Nat) : (il ps).getD i 0 = ((ps.getD i 0 : Nat) : Int) := by
 rw [List.getD_eq_getElem?_getD, List.getD_eq_getElem?_getD, List.getElem?_map]
 cases ps[i]? <;> simp
theorem drop_getDN (q : List Nat) (k : Nat) (h : k < q.length) : q.drop k = q.getD k 0 :: q.drop (k + 1) := by
 rw [List.getD_eq_getElem?_getD, List.getElem?_eq_getElem h]
 exact List.drop_eq_getElem_cons h
theorem getDN_mem (q : List Nat) (k : Nat) (h : k < q.length) : q.getD k 0 ∈ q := by
 rw [List.getD_eq_getElem?_getD, List.getElem?_eq_getElem h]; exact List.getElem_mem h
theorem getDI_mem (q : List Int) (k : Nat) (h : k < q.length) : q.getD k 0 ∈ q := by
 rw [List.getD_eq_getElem?_getD, List.getElem?_eq_getElem h]; exact List.getElem_mem h
theorem expo_nd {p n : Nat} (hp : 2 ≤ p) (hn : 1 ≤ n) : expo p n < 4 * nDigits n := by
 have h1 := expo_lt hp hn
 have h2 := lt_pow_nDigits n
 have h3 : 10 ^ nDigits n ≤ 2 ^ (4 * nDigits n) := by
  rw [Nat.pow_mul]; exact Nat.pow_le_pow_left (by decide) _
 apply Nat.lt_of_not_le
 intro hc
 have := Nat.pow_le_pow_right (show 0 < 2 by decide) hc
 omega
theorem exponent_loop (p : Nat) (hp : 2 ≤ p) (hp2 : p ≤ 97) : ∀ (n c : Nat), 1 ≤ n → nDigits n ≤ 100000 → c + expo p n ≤ 1000000000 →
  Ev (fun k => monzo_exponent.l0 k (ns n) (p : Int) (c : Int)) (ns (rest p n), ((c + expo p n : Nat) : Int)) := by
 intro n
 induction n using Nat.strongRecOn with
 | _ n ih =>
  intro c hn hd hc
  refine Ev.succ ?_
  simp only [monzo_exponent.l0]
  have hpd : nDigits p ≤ 2 := nd_le (by omega) (by decide)
  refine Ev.bindc (wof_ns (by omega)) (Ev.bind (wdivmod_ns n p hd (by omega) (by omega)) ?_)
  by_cases h : n % p = 0
  ·refine Ev.ite_pos (ns_eq0.2 h) ?_
   rw [expo_yes hp hn h] at hc ⊢
   rw [rest_yes hp hn h]
   have h1 : n / p < n := Nat.div_lt_self (by omega) (by omega)
   have h2 : 1 ≤ n / p := Nat.div_pos (Nat.le_of_dvd (by omega) (Nat.dvd_of_mod_eq_zero h)) (by omega)
   have := ih (n / p) h1 (c + 1) h2 (Nat.le_trans (nd_mono (Nat.le_of_lt h1)) hd) (by omega)
   rw [w64 (by omega) (by omega)]
   refine Ev.eq this ?_
   rw [show c + 1 + expo p (n / p) = c + (expo p (n / p) + 1) by omega]
  ·refine Ev.ite_neg (by rw [ns_eq0]; exact h) (Ev.val ?_)
   rw [expo_no h, rest_no h]; rfl
theorem exponent_ev (p n : Nat) (hp : 2 ≤ p) (hp2 : p ≤ 97) (hn : 1 ≤ n) (hd : nDigits n ≤ 100000) : Ev (fun k => monzo_exponent.f k (ns n) (p : Int)) (ns (rest p n), ((expo p n : Nat) : Int)) := by
 unfold monzo_exponent.f
 have h1 := expo_nd hp hn
 have := exponent_loop p hp hp2 n 0 hn hd (by omega)
 simpa using this
def ofX : List Nat → Nat → Nat → List Int × Nat × Nat
 | [], n, d => ([], n, d)
 | p :: ps, n, d => (((expo p n : Int) - (expo p d : Int)) :: (ofX ps (rest p n) (rest p d)).1, (ofX ps (rest p n) (rest p d)).2)
theorem ofX_num_den : ∀ (ps : List Nat) (xs : List Int), Apart ps → xs.length = ps.length → ofX ps (numL ps xs) (denL ps xs) = (xs, 1, 1)
 | [], xs, _, h => by rw [List.length_eq_zero_iff.1 h]; rfl
 | p :: ps, [], _, h => by simp at h
 | p :: ps, x :: xs, h, hl => by
  have hp := h.1
  have c1 := not_dvd_of_cop hp (numL_cop ps xs h.2.1)
  have c2 := not_dvd_of_cop hp (denL_cop ps xs h.2.1)
  have f1 := expo_rest_pow hp c1 x.toNat
  have f2 := expo_rest_pow hp c2 (-x).toNat
  have ih := ofX_num_den ps xs h.2.2 (by simpa using hl)
  rw [ofX, numL, denL, f1.1, f1.2, f2.1, f2.2, ih]
  simp only [Prod.mk.injEq, List.cons.injEq, and_true]
  omega
def ofR (xs : List Int) (n d : Nat) : List Int × Int := if n = 1 ∧ d = 1 then (if far xs = true then ([], 4) else (xs, 0)) else ([], 25)
theorem of_loop (ps : List Nat) (hps : ps.length ≤ 100) (hr : ∀ p ∈ ps, 2 ≤ p ∧ p ≤ 97) (hpe : primeErr (il ps) = 0) : ∀ (c i n d : Nat) (acc : List Int), ps.length = i + c → acc.length = i → 1 ≤ n → 1 ≤ d → nDigits n ≤ 100000 → nDigits d ≤ 100000 →
  Ev (fun k => monzo_Of.l0 k (il ps) (ns n) (ns d) acc (il ps) ((il ps).length : Int) (i : Int)) (ofR (acc ++ (ofX (ps.drop i) n d).1) (ofX (ps.drop i) n d).2.1 (ofX (ps.drop i) n d).2.2) := by
 intro c
 induction c with
 | zero =>
  intro i n d acc hi ha hn hd hnd hdd
  refine Ev.succ ?_
  simp only [monzo_Of.l0, il_length]
  rw [List.drop_of_length_le (by omega)]
  simp only [ofX, List.append_nil]
  refine Ev.ite_neg (by omega) ?_
  unfold ofR
  by_cases h1 : n = 1
  ·refine Ev.ite_pos (ns_eq1.2 h1) ?_
   by_cases h2 : d = 1
   ·rw [if_pos ⟨h1, h2⟩]
    refine Ev.ite_pos (ns_eq1.2 h2) (Ev.bindr (result_ev (il ps) acc (by omega) hpe (by rw [il_length]; omega)) rfl)
   ·rw [if_neg (fun e => h2 e.2)]
    exact Ev.ite_neg (by rw [ns_eq1]; exact h2) (Ev.val rfl)
  ·rw [if_neg (fun e => h1 e.1)]
   exact Ev.ite_neg (by rw [ns_eq1]; exact h1) (Ev.val rfl)
 | succ c ih =>
  intro i n d acc hi ha hn hd hnd hdd
  have hlt : i < ps.length := by omega
  obtain ⟨p2, p97⟩ := hr _ (getDN_mem ps i hlt)
  refine Ev.succ ?_
  simp only [monzo_Of.l0, il_length]
  rw [rd_nat, il_getD, drop_getDN ps i hlt, ofX]
  generalize ps.getD i 0 = p at *
  have r1 := rest_pos p2 hn
  have r2 := rest_pos p2 hd
  have l1 := rest_le p2 hn
  have l2 := rest_le p2 hd
  have e1 := expo_nd p2 hn
  have e2 := expo_nd p2 hd
  refine Ev.ite_pos (by omega) (Ev.ite_pos (by omega) (Ev.ite_pos (by omega) (Ev.bind (exponent_ev p n p2 p97 hn hnd) (Ev.bind (exponent_ev p d p2 p97 hd hdd) (Ev.ite_pos (by omega) ?_)))))
  dsimp only
  rw [w64 (x := ((expo p n : Nat) : Int) - ((expo p d : Nat) : Int)) (by omega) (by omega), w64 (by omega) (by omega)]
  have := ih (i + 1) (rest p n) (rest p d) (acc ++ [((expo p n : Nat) : Int) - ((expo p d : Nat) : Int)]) (by omega) (by simp; omega) r1 r2 (Nat.le_trans (nd_mono l1) hnd) (Nat.le_trans (nd_mono l2) hdd)
  rw [il_length] at this
  simpa using this
theorem zs_inj {a b : Int} (h : zs a = zs b) : a = b := by
 have : (whole_split.f (zs a)) = whole_split.f (zs b) := by rw [h]
 rw [split_zs, split_zs] at this
 injection this with this
 injection this with h1 h2
 have h3 := ns_inj h2
 rw [decide_eq_decide] at h1
 omega
theorem fcheck_ev (s t : ByteArray) (hs : s.size ≤ 1000000) (ht : t.size ≤ 1000000) :
  (∃ (a : Int) (b : Nat), s = zs a ∧ t = ns b ∧ 1 ≤ b ∧ Nat.gcd a.natAbs b = 1 ∧ nDigits a.natAbs ≤ 400 ∧ nDigits b ≤ 400 ∧ Ev (fun k => fraction_Check.f k s t) 0) ∨
  ((∀ (a : Int) (b : Nat), s = zs a → t = ns b → 1 ≤ b → Nat.gcd a.natAbs b = 1 → 400 < nDigits a.natAbs ∨ 400 < nDigits b) ∧ Ev (fun k => fraction_Check.f k s t) 2) := by
 have hbad : Ev (fun k => fraction_Check.j0 k true s t) 2 := by
  refine Ev.succ ?_
  simp only [fraction_Check.j0]
  exact Ev.ite_pos (by simp) (Ev.val rfl)
 unfold fraction_Check.f
 rcases wcheck_ev s (by omega) with ⟨a, rfl, ha, hea⟩ | ⟨hna, hea⟩
 ·rcases wcheck_ev t (by omega) with ⟨b, rfl, hb, heb⟩ | ⟨hnb, heb⟩
  ·by_cases hb0 : b ≤ 0
   ·right
    refine ⟨fun a2 b2 e1 e2 h1 h2 => ?_, ?_⟩
    ·rw [← zs_nat] at e2
     have := zs_inj e2
     omega
    ·refine Ev.bind hea (Ev.ite_pos rfl (Ev.bind heb (Ev.succ ?_)))
     simp only [fraction_Check.j0]
     refine Ev.ite_neg (by decide) (Ev.bindc (sign_zs b) (Ev.ite_pos ?_ (Ev.val rfl)))
     unfold cmpI; split
     ·decide
     ·rw [if_pos (by omega)]; decide
   ·obtain ⟨B, rfl⟩ := Int.eq_ofNat_of_zero_le (show 0 ≤ b by omega)
    simp only [Int.natAbs_natCast] at hb
    have hev : Ev (fun k => fraction_Check.j0 k false (zs a) (zs (B : Int))) (if Nat.gcd a.natAbs B = 1 then 0 else 2) := by
     refine Ev.succ ?_
     simp only [fraction_Check.j0]
     refine Ev.ite_neg (by decide) (Ev.bindc (sign_zs _) (Ev.ite_neg ?_ (Ev.bind (wgcd_ev a B (by omega) (by simpa using (by omega : nDigits B ≤ 100000))) ?_)))
     ·unfold cmpI; rw [if_neg (by omega), if_neg (by omega)]; decide
     ·rw [Int.natAbs_natCast, Nat.gcd_comm]
      by_cases hg : Nat.gcd a.natAbs B = 1
      ·rw [if_pos hg]; exact Ev.ite_pos (ns_eq1.2 hg) (Ev.val rfl)
      ·rw [if_neg hg]; exact Ev.ite_neg (by rw [ns_eq1]; exact hg) (Ev.val rfl)
    have hev2 : Ev (fun k => (whole_Check.f k (zs a)).bind fun t299 => (if t299 = 0 then ((whole_Check.f k (zs (B : Int))).bind fun t300 => (fraction_Check.j0 k (t300 != 0) (zs a) (zs (B : Int)))) else (fraction_Check.j0 k (t299 != 0) (zs a) (zs (B : Int))))) (if Nat.gcd a.natAbs B = 1 then 0 else 2) :=
     Ev.bind hea (Ev.ite_pos rfl (Ev.bind heb hev))
    by_cases hg : Nat.gcd a.natAbs B = 1
    ·left
     exact ⟨a, B, rfl, zs_nat B, by omega, hg, ha, hb, Ev.eq hev2 (if_pos hg)⟩
    ·right
     refine ⟨fun a2 b2 e1 e2 h1 h2 => ?_, Ev.eq hev2 (if_neg hg)⟩
     rw [zs_nat] at e2
     rw [← zs_inj e1, ← ns_inj e2] at h2
     exact absurd h2 hg
  ·right
   refine ⟨fun a2 b2 e1 e2 h1 h2 => ?_, Ev.bind hea (Ev.ite_pos rfl (Ev.bind heb hbad))⟩
   have := hnb b2 (by rw [zs_nat]; exact e2)
   right; simpa using this
 ·right
  refine ⟨fun a2 b2 e1 e2 h1 h2 => .inl (hna a2 e1), Ev.bind hea (Ev.ite_neg (by decide) hbad)⟩
theorem mof_ev (ps : List Nat) (hps : ps.length ≤ 100) (hr : ∀ p ∈ ps, 2 ≤ p ∧ p ≤ 97) (hpe : primeErr (il ps) = 0) (n d : Nat) (hn : 1 ≤ n) (hd : 1 ≤ d) (hnd : nDigits n ≤ 400) (hdd : nDigits d ≤ 400)
  (h : Ev (fun k => fraction_Check.f k (ns n) (ns d)) 0) : Ev (fun k => monzo_Of.f k (il ps) (ns n) (ns d)) (ofR (ofX ps n d).1 (ofX ps n d).2.1 (ofX ps n d).2.2) := by
 unfold monzo_Of.f
 refine Ev.bind (primeCheck_ev _) (Ev.ite_pos hpe (Ev.bind h (Ev.ite_pos rfl (Ev.bindc (a := cmpI n 0) ?_ (Ev.ite_neg ?_ ?_)))))
 ·unfold fraction_Sign.f
  rw [← zs_nat, sign_zs]; rfl
 ·unfold cmpI; rw [if_neg (by omega), if_neg (by omega)]; decide
 ·have := of_loop ps hps hr hpe ps.length 0 n d [] (by omega) rfl hn hd (by omega) (by omega)
  simpa using this
theorem fcheck_ok (n d : Nat) (hd : 1 ≤ d) (hg : Nat.gcd n d = 1) (h1 : nDigits n ≤ 400) (h2 : nDigits d ≤ 400) : Ev (fun k => fraction_Check.f k (ns n) (ns d)) 0 := by
 rcases fcheck_ev (ns n) (ns d) (by rw [ns_size]; omega) (by rw [ns_size]; omega) with ⟨_, _, _, _, _, _, _, _, h⟩ | ⟨hno, _⟩
 ·exact h
 ·exfalso
  have := hno (n : Int) d (by rw [zs_nat]) rfl hd (by simpa using hg)
  simp only [Int.natAbs_natCast] at this
  omega
theorem nd_pow2 {p n : Nat} (hp : p ≤ 97) (hn : n ≤ 1000) : nDigits (p ^ n) ≤ 2001 := by
 have := nd_pow p n
 have hb2 : nDigits p ≤ 2 := nd_le (by omega) (by decide)
 have := Nat.mul_le_mul hn hb2
 omega
theorem sides_loop (ps : List Nat) (xs : List Int) (hl : xs.length = ps.length) (hps : ps.length ≤ 20) (hr : ∀ p ∈ ps, 2 ≤ p ∧ p ≤ 97) (hx : ∀ x ∈ xs, -1000 ≤ x ∧ x ≤ 1000) :
  ∀ (c i A B : Nat), ps.length = i + c → nDigits A ≤ 3000 * (i + 1) → nDigits B ≤ 3000 * (i + 1) →
   Ev (fun k => monzo_sides.l0 k (il ps) (ns A) (ns B) xs (xs.length : Int) (i : Int)) (ns (A * numL (ps.drop i) (xs.drop i)), ns (B * denL (ps.drop i) (xs.drop i))) := by
 intro c
 induction c with
 | zero =>
  intro i A B hi hA hB
  refine Ev.succ ?_
  simp only [monzo_sides.l0]
  rw [List.drop_of_length_le (by omega), List.drop_of_length_le (by omega)]
  exact Ev.ite_neg (by omega) (Ev.val (by simp [numL, denL]))
 | succ c ih =>
  intro i A B hi hA hB
  have hlt : i < ps.length := by omega
  obtain ⟨p2, p97⟩ := hr _ (getDN_mem ps i hlt)
  obtain ⟨x0, x1⟩ := hx _ (getDI_mem xs i (by omega))
  refine Ev.succ ?_
  simp only [monzo_sides.l0, il_length]
  rw [rd_nat, rd_nat, il_getD, drop_getDN ps i hlt, drop_getD xs i (by omega), numL, denL]
  generalize ps.getD i 0 = p at *
  generalize xs.getD i 0 = x at *
  rw [wu64 (x := (p : Int)) (by omega) (by omega), w64 (x := -x) (by omega) (by omega), w64 (x := (i : Int) + 1) (by omega) (by omega)]
  have hab : mx x (-x) = ((x.natAbs : Nat) : Int) := by unfold mx; split <;> omega
  rw [hab]
  have hpd := nd_pow2 p97 (show x.natAbs ≤ 1000 by omega)
  refine Ev.ite_pos (by omega) (Ev.ite_pos (by omega) (Ev.ite_pos (by omega) (Ev.ite_pos (by omega) (Ev.bindc (dof_ns rfl (by omega)) (Ev.bind (power_ev p x.natAbs p2 p97 (by omega)) ?_)))))
  by_cases hx0 : x > 0
  ·refine Ev.ite_pos hx0 (Ev.bind (mul_ev A _ (by omega) (by omega)) ?_)
   have hm := nd_mul A (p ^ x.natAbs)
   have := ih (i + 1) (A * p ^ x.natAbs) B (by omega) (by omega) (by omega)
   refine Ev.eq this ?_
   rw [show x.toNat = x.natAbs by omega, show (-x).toNat = 0 by omega, Nat.pow_zero, Nat.one_mul, Nat.mul_assoc]
  ·refine Ev.ite_neg hx0 (Ev.bind (mul_ev B _ (by omega) (by omega)) ?_)
   have hm := nd_mul B (p ^ x.natAbs)
   have := ih (i + 1) A (B * p ^ x.natAbs) (by omega) (by omega) (by omega)
   refine Ev.eq this ?_
   rw [show (-x).toNat = x.natAbs by omega, show x.toNat = 0 by omega, Nat.pow_zero, Nat.one_mul, Nat.mul_assoc]
theorem sides_ev (ps : List Nat) (xs : List Int) (hl : xs.length = ps.length) (hps : ps.length ≤ 20) (hr : ∀ p ∈ ps, 2 ≤ p ∧ p ≤ 97) (hx : ∀ x ∈ xs, -1000 ≤ x ∧ x ≤ 1000) :
  Ev (fun k => monzo_sides.f k (il ps) xs) (ns (numL ps xs), ns (denL ps xs)) := by
 unfold monzo_sides.f
 have h1 : nDigits 1 = 1 := nDigits_small (by decide)
 have := sides_loop ps xs hl hps hr hx ps.length 0 1 1 (by omega) (by omega) (by omega)
 rw [List.drop_zero, List.drop_zero, Nat.one_mul, Nat.one_mul, ← ns1] at this
 exact this
theorem numL_nd : ∀ (ps : List Nat) (xs : List Int), (∀ p ∈ ps, 2 ≤ p ∧ p ≤ 97) → (∀ x ∈ xs, -1000 ≤ x ∧ x ≤ 1000) → nDigits (numL ps xs) ≤ 3000 * (ps.length + 1) ∧ nDigits (denL ps xs) ≤ 3000 * (ps.length + 1)
 | [], _, _, _ => by simp only [numL, denL]; rw [nDigits_small (by decide)]; omega
 | _ :: _, [], _, _ => by simp only [numL, denL]; rw [nDigits_small (by decide)]; omega
 | p :: ps, x :: xs, hr, hx => by
  obtain ⟨i1, i2⟩ := numL_nd ps xs (fun q hq => hr q (by simp [hq])) (fun y hy => hx y (by simp [hy]))
  have h1 := hx x (by simp)
  have h2 := hr p (by simp)
  have a1 := nd_pow2 h2.2 (show x.toNat ≤ 1000 by omega)
  have a2 := nd_pow2 h2.2 (show (-x).toNat ≤ 1000 by omega)
  have b1 := nd_mul (p ^ x.toNat) (numL ps xs)
  have b2 := nd_mul (p ^ (-x).toNat) (denL ps xs)
  rw [numL, denL, List.length_cons]
  omega
theorem short_val (n : Nat) : monzo_short.f (ns n) = some (if nDigits n ≤ 400 then (ns n, 0) else (⟨#[]⟩, 4)) := by
 unfold monzo_short.f decimal_Digits.f
 rw [Option.bind_some, ns_size]
 by_cases h : nDigits n ≤ 400
 ·rw [if_neg (by omega), if_pos h]
 ·rw [if_pos (by omega), if_neg h]
structure Fit (ps : List Nat) (xs : List Int) : Prop where
 len : xs.length = ps.length
 few : ps.length ≤ 8
 rng : ∀ p ∈ ps, 2 ≤ p ∧ p ≤ 97
 err : primeErr (il ps) = 0
 apart : Apart ps
 near : ∀ x ∈ xs, -1000 ≤ x ∧ x ≤ 1000
theorem Fit.notfar {ps : List Nat} {xs : List Int} (h : Fit ps xs) : far xs = false := by
 unfold far
 rw [List.any_eq_false]
 intro n hn
 have := h.near n hn
 simp only [decide_eq_true_eq]
 omega
theorem Fit.chk {ps : List Nat} {xs : List Int} (h : Fit ps xs) : Q.chk (il ps) xs = 0 := by
 unfold Q.chk
 rw [if_pos (by rw [il_length]; exact h.len), h.notfar]; rfl
theorem Fit.chkE {ps : List Nat} {xs : List Int} (h : Fit ps xs) : Q.chkE (il ps) (Q.chk (il ps) xs) = 0 := by
 unfold Q.chkE
 rw [if_pos h.err, h.chk]
theorem Fit.mcheck {ps : List Nat} {xs : List Int} (h : Fit ps xs) : Ev (fun k => monzo_Check.f k (il ps) xs) 0 :=
 Ev.eq (mcheck_ev _ _ (by have := h.len; have := h.few; omega)) h.chkE
theorem Fit.sides {ps : List Nat} {xs : List Int} (h : Fit ps xs) : Ev (fun k => monzo_sides.f k (il ps) xs) (ns (numL ps xs), ns (denL ps xs)) := sides_ev ps xs h.len (by have := h.few; omega) h.rng h.near
theorem Fit.nd {ps : List Nat} {xs : List Int} (h : Fit ps xs) : nDigits (numL ps xs) ≤ 27000 ∧ nDigits (denL ps xs) ≤ 27000 := by
 have := numL_nd ps xs h.rng h.near
 have := h.few
 omega
theorem Fit.fraction {ps : List Nat} {xs : List Int} (h : Fit ps xs) : Ev (fun k => monzo_Fraction.f k (il ps) xs) (if nDigits (numL ps xs) ≤ 400 ∧ nDigits (denL ps xs) ≤ 400 then (ns (numL ps xs), ns (denL ps xs), 0) else (⟨#[]⟩, ⟨#[]⟩, 4)) := by
 unfold monzo_Fraction.f
 refine Ev.bind h.mcheck (Ev.ite_pos rfl (Ev.bind h.sides (Ev.bindc (short_val _) ?_)))
 by_cases h1 : nDigits (numL ps xs) ≤ 400
 ·rw [if_pos h1]
  refine Ev.ite_pos rfl (Ev.bindc (short_val _) ?_)
  by_cases h2 : nDigits (denL ps xs) ≤ 400
  ·rw [if_pos h2]
   exact Ev.ite_pos rfl (Ev.val (congrArg some (if_pos ⟨h1, h2⟩).symm))
  ·rw [if_neg h2]
   exact Ev.ite_neg (by decide) (Ev.val (congrArg some (if_neg (fun e => h2 e.2)).symm))
 ·rw [if_neg h1]
  exact Ev.ite_neg (by decide) (Ev.val (congrArg some (if_neg (fun e => h1 e.1)).symm))
def ftB (a b : Nat) : ByteArray := if b = 1 then ns a else (ns a ++ (⟨#[47]⟩ : ByteArray)) ++ ns b
theorem ftext_val (a b : Nat) (ha : nDigits a ≤ 100000) (hb : nDigits b ≤ 100000) : fraction_Text.f (ns a) (ns b) = some (ftB a b) := by
 unfold fraction_Text.f ftB
 by_cases h : b = 1
 ·rw [if_pos (ns_eq1.2 h), if_pos h]
 ·rw [if_neg (by rw [ns_eq1]; exact h), if_neg h, ns_size, ns_size, if_pos (by omega), if_pos (by omega)]
theorem Fit.text {ps : List Nat} {xs : List Int} (h : Fit ps xs) : Ev (fun k => monzo_Text.f k (il ps) xs) (if nDigits (numL ps xs) ≤ 400 ∧ nDigits (denL ps xs) ≤ 400 then (ftB (numL ps xs) (denL ps xs), 0) else (⟨#[]⟩, 4)) := by
 unfold monzo_Text.f
 refine Ev.bind h.fraction ?_
 by_cases h1 : nDigits (numL ps xs) ≤ 400 ∧ nDigits (denL ps xs) ≤ 400
 ·rw [if_pos h1, if_pos h1]
  exact Ev.ite_pos rfl (Ev.bindc (ftext_val _ _ (by omega) (by omega)) (Ev.val rfl))
 ·rw [if_neg h1, if_neg h1]
  exact Ev.ite_neg (by decide) (Ev.val rfl)
theorem Fit.product {ps : List Nat} {xs : List Int} (h : Fit ps xs) : Ev (fun k => monzo_Product.f k (il ps) xs) (if nDigits (numL ps xs * denL ps xs) ≤ 400 then (ns (numL ps xs * denL ps xs), 0) else (⟨#[]⟩, 4)) := by
 unfold monzo_Product.f heightOf
 have := h.nd
 exact Ev.bind h.mcheck (Ev.ite_pos rfl (Ev.bind h.sides (Ev.bind (mul_ev _ _ (by omega) (by omega)) (Ev.val (short_val _)))))
theorem Fit.of {ps : List Nat} {xs : List Int} (h : Fit ps xs) (h1 : nDigits (numL ps xs) ≤ 400) (h2 : nDigits (denL ps xs) ≤ 400) : Ev (fun k => monzo_Of.f k (il ps) (ns (numL ps xs)) (ns (denL ps xs))) (xs, 0) := by
 have hn := numL_pos ps xs h.apart
 have hd := denL_pos ps xs h.apart
 have := mof_ev ps (by have := h.few; omega) h.rng h.err _ _ hn hd h1 h2 (fcheck_ok _ _ hd (num_den_cop ps xs h.apart) h1 h2)
 refine Ev.eq this ?_
 rw [ofX_num_den ps xs h.apart h.len]
 unfold ofR
 rw [if_pos ⟨rfl, rfl⟩, h.notfar]; rfl
theorem Fit.compare {ps : List Nat} {xs ys : List Int} (h : Fit ps xs) (g : Fit ps ys) : Ev (fun k => monzo_Compare.f k (il ps) xs ys) (cmpI ((numL ps xs * denL ps ys : Nat) : Int) ((numL ps ys * denL ps xs : Nat) : Int), 0) := by
 unfold monzo_Compare.f
 have e : Ev (fun k => monzo_CheckAll.f k (il ps) ([xs, ys] : List (List Int))) 0 := by
  have := checkAll_ev (il ps) [xs, ys] (by simp) (fun x hx => by
   have h1 := h.len; have h2 := g.len; have h3 := h.few
   simp only [List.mem_cons, List.not_mem_nil, or_false] at hx
   rcases hx with rfl | rfl <;> omega)
  refine Ev.eq this ?_
  unfold Q.chkE
  rw [if_pos h.err]
  simp [chkL, h.chk, g.chk]
 have a := h.nd
 have b := g.nd
 have c := nd_mul (numL ps xs) (denL ps ys)
 have d := nd_mul (numL ps ys) (denL ps xs)
 refine Ev.bind e (Ev.ite_pos rfl (Ev.bind h.sides (Ev.bind g.sides (Ev.bind (mul_ev _ _ (by omega) (by omega)) (Ev.bind (mul_ev _ _ (by omega) (by omega)) (Ev.bindc (compare_ns _ _ ?_ ?_) (Ev.val rfl)))))))
 ·omega
 ·omega
end Go.Proofs.YtccebdpjdpjgnaaGreatDoor.Q
