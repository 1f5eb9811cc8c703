/-
Plain laws: prime's lists, factors and values; the known answers of chapter 11.
-/
import Derived.Test.YtccebdpjdpjgnaaGreatDoorJN28
import Derived.Test.YtccebdpjdpjgnaaGreatDoorJN32
set_option linter.unusedVariables false
set_option linter.unusedSimpArgs false
namespace Go.Proofs.YtccebdpjdpjgnaaGreatDoor.Q
open Go.Lib hiding bytesOf bytesOf_length
open Go Go.RowKit Sch Go.Proofs.YtccebdpjdpjgnaaGreatDoor.P Go.Proofs.YtccebdpjdpjgnaaGreatDoorW.PrintWords Go.Proofs.YtccebdpjdpjgnaaGreatDoorW.PrintLast Go.Proofs.YtccebdpjdpjgnaaGreatDoorW.PrintMore
set_option linter.unusedVariables false
set_option linter.unusedSimpArgs false
def allP : List Nat := [2, 3, 5, 7, 11, 13, 17, 19, 23, 29, 31, 37, 41, 43, 47, 53, 59, 61, 67, 71, 73, 79, 83, 89, 97]
theorem every_ev : Ev (fun k => prime_every.f k) (il allP) := Ev.of (g := fun k => prime_every.f k) prime_every.mono (show prime_every.f 40 = some (il allP) by decide +kernel)
theorem first_ev (c : Int) (h0 : 1 ≤ c) (h1 : c ≤ 6) : Ev (fun k => prime_First.f k c) ((il allP).take c.toNat, 0) := by
 unfold prime_First.f
 refine Ev.ite_neg (by omega) (Ev.bind every_ev (Ev.ite_pos ?_ (Ev.val rfl)))
 have : (il allP).length = 25 := rfl
 omega
theorem equalP_ev (a b : List Int) (ha : a.length ≤ 1000) : Ev (fun k => api_Primes_int_63.f k a b) (decide (a = b)) := by
 unfold api_Primes_int_63.f
 by_cases hl : a.length = b.length
 ·refine Ev.ite_pos (by omega) ?_
  have : ∀ (d i : Nat), a.length = i + d → Ev (fun k => api_Primes_int_63.l0 k a b (a.length : Int) (i : Int)) (decide (a.drop i = b.drop i)) := by
   intro d
   induction d with
   | zero =>
    intro i hi
    refine Ev.succ ?_
    simp only [api_Primes_int_63.l0]
    rw [List.drop_of_length_le (by omega), List.drop_of_length_le (by omega)]
    exact Ev.ite_neg (by omega) (Ev.val (by simp))
   | succ d ih =>
    intro i hi
    refine Ev.succ ?_
    simp only [api_Primes_int_63.l0]
    rw [rd_nat, rd_nat, drop_getD a i (by omega), drop_getD b i (by omega), w64 (by omega) (by omega)]
    refine Ev.ite_pos (by omega) (Ev.ite_pos (by omega) (Ev.ite_pos (by omega) (Ev.ite_pos (by omega) ?_)))
    by_cases he : a.getD i 0 = b.getD i 0
    ·refine Ev.ite_pos he (Ev.eq (ih (i + 1) (by omega)) ?_)
     rw [he, decide_eq_decide]
     simp
    ·refine Ev.ite_neg he (Ev.val ?_)
     rw [decide_eq_false]
     intro e; injection e with e1 e2; exact he e1
  exact Ev.eq (this a.length 0 (by omega)) (by rw [List.drop_zero, List.drop_zero])
 ·refine Ev.ite_neg (by omega) (Ev.val ?_)
  rw [decide_eq_false]
  intro e; exact hl (by rw [e])
theorem equalR_ev (a b : List Int) (ha : a.length ≤ 1000) : Ev (fun k => api_Row_int.f k a b) (decide (a = b)) := by
 unfold api_Row_int.f
 by_cases hl : a.length = b.length
 ·refine Ev.ite_pos (by omega) ?_
  have : ∀ (d i : Nat), a.length = i + d → Ev (fun k => api_Row_int.l0 k a b (a.length : Int) (i : Int)) (decide (a.drop i = b.drop i)) := by
   intro d
   induction d with
   | zero =>
    intro i hi
    refine Ev.succ ?_
    simp only [api_Row_int.l0]
    rw [List.drop_of_length_le (by omega), List.drop_of_length_le (by omega)]
    exact Ev.ite_neg (by omega) (Ev.val (by simp))
   | succ d ih =>
    intro i hi
    refine Ev.succ ?_
    simp only [api_Row_int.l0]
    rw [rd_nat, rd_nat, drop_getD a i (by omega), drop_getD b i (by omega), w64 (by omega) (by omega)]
    refine Ev.ite_pos (by omega) (Ev.ite_pos (by omega) (Ev.ite_pos (by omega) (Ev.ite_pos (by omega) ?_)))
    by_cases he : a.getD i 0 = b.getD i 0
    ·refine Ev.ite_pos he (Ev.eq (ih (i + 1) (by omega)) ?_)
     rw [he, decide_eq_decide]
     simp
    ·refine Ev.ite_neg he (Ev.val ?_)
     rw [decide_eq_false]
     intro e; injection e with e1 e2; exact he e1
  exact Ev.eq (this a.length 0 (by omega)) (by rw [List.drop_zero, List.drop_zero])
 ·refine Ev.ite_neg (by omega) (Ev.val ?_)
  rw [decide_eq_false]
  intro e; exact hl (by rw [e])
theorem pdivide_loop (p : Nat) (hp : 2 ≤ p) (hp2 : p ≤ 97) : ∀ (n c : Nat), 1 ≤ n → nDigits n ≤ 100000 → c + expo p n ≤ 1000000000 →
  Ev (fun k => prime_divide.l0 k (ns n) (ns p) (c : Int)) (ns (rest p n), ((c + expo p n : Nat) : Int)) := by
 intro n
 induction n using Nat.strongRecOn with
 | _ n ih =>
  intro c hn hd hc
  refine Ev.succ ?_
  simp only [prime_divide.l0]
  have hpd : nDigits p ≤ 2 := nd_le (by omega) (by decide)
  refine Ev.bind (wdivmod_ns n p hd (by omega) (by omega)) ?_
  by_cases h : n % p = 0
  ·refine Ev.ite_pos (ns_eq0.2 h) (Ev.ite_pos rfl ?_)
   rw [expo_yes hp hn h] at hc ⊢
   rw [rest_yes hp hn h]
   have h1 : n / p < n := Nat.div_lt_self (by omega) (by omega)
   have h2 : 1 ≤ n / p := Nat.div_pos (Nat.le_of_dvd (by omega) (Nat.dvd_of_mod_eq_zero h)) (by omega)
   have := ih (n / p) h1 (c + 1) h2 (Nat.le_trans (nd_mono (Nat.le_of_lt h1)) hd) (by omega)
   rw [w64 (by omega) (by omega)]
   refine Ev.eq this ?_
   rw [show c + 1 + expo p (n / p) = c + (expo p (n / p) + 1) by omega]
  ·refine Ev.ite_neg (by rw [ns_eq0]; exact h) (Ev.val ?_)
   rw [expo_no h, rest_no h]; rfl
theorem pdivide_ev (p n : Nat) (hp : 2 ≤ p) (hp2 : p ≤ 97) (hn : 1 ≤ n) (hd : nDigits n ≤ 100000) : Ev (fun k => prime_divide.f k (ns n) (p : Int)) (ns (rest p n), ((expo p n : Nat) : Int)) := by
 unfold prime_divide.f
 have h1 := expo_nd hp hn
 have := pdivide_loop p hp hp2 n 0 hn hd (by omega)
 refine Ev.bindc (wof_ns (by omega)) ?_
 simpa using this
theorem set_mid (pre : List Int) (c : Nat) (v : Int) : (pre ++ List.replicate (c + 1) 0).set pre.length v = (pre ++ [v]) ++ List.replicate c 0 := by
 simp [List.set_append, List.replicate_succ]
theorem sign_pos {n : Nat} (hn : 1 ≤ n) (t : ByteArray) : fraction_Sign.f (ns n) t = some 1 := by
 unfold fraction_Sign.f
 rw [← zs_nat, sign_zs]
 show some (cmpI (n : Int) 0) = _
 unfold cmpI
 rw [if_neg (by omega), if_neg (by omega)]
def oneB (t : Nat × Nat) : Bool := decide (t.1 = 1 ∧ t.2 = 1)
theorem oneB_yes {t : Nat × Nat} (h : t.1 = 1 ∧ t.2 = 1) : oneB t = true := decide_eq_true h
theorem oneB_no {t : Nat × Nat} (h : ¬ (t.1 = 1 ∧ t.2 = 1)) : oneB t = false := decide_eq_false h
theorem pfactor_loop (ps : List Nat) (hps : ps.length ≤ 100) (hr : ∀ p ∈ ps, 2 ≤ p ∧ p ≤ 97) : ∀ (c i n d : Nat) (acc : List Int), ps.length = i + c → acc.length = i → 1 ≤ n → 1 ≤ d → nDigits n ≤ 100000 → nDigits d ≤ 100000 →
  Ev (fun k => prime_factor.l0 k (acc ++ List.replicate c 0) (ns n) (ns d) (il ps) ((il ps).length : Int) (i : Int)) (acc ++ (ofX (ps.drop i) n d).1, oneB (ofX (ps.drop i) n d).2) := by
 intro c
 induction c with
 | zero =>
  intro i n d acc hi ha hn hd hnd hdd
  refine Ev.succ ?_
  simp only [prime_factor.l0, il_length]
  rw [List.drop_of_length_le (by omega)]
  simp only [ofX, List.append_nil, List.replicate_zero]
  refine Ev.ite_neg (by omega) ?_
  by_cases h1 : n = 1
  ·refine Ev.ite_pos (ns_eq1.2 h1) (Ev.val ?_)
   by_cases h2 : d = 1
   ·rw [oneB_yes (t := (n, d)) ⟨h1, h2⟩, beq_iff_eq.2 (ns_eq1.2 h2)]
   ·rw [oneB_no (t := (n, d)) (fun e => h2 e.2), beq_eq_false_iff_ne.2 (fun e => h2 (ns_eq1.1 e))]
  ·refine Ev.ite_neg (by rw [ns_eq1]; exact h1) (Ev.val ?_)
   rw [oneB_no (t := (n, d)) (fun e => h1 e.1)]
 | succ c ih =>
  intro i n d acc hi ha hn hd hnd hdd
  have hlt : i < ps.length := by omega
  obtain ⟨p2, p97⟩ := hr _ (getDN_mem ps i hlt)
  refine Ev.succ ?_
  simp only [prime_factor.l0, il_length]
  rw [rd_nat, il_getD, drop_getDN ps i hlt, ofX]
  generalize ps.getD i 0 = p at *
  have r1 := rest_pos p2 hn
  have r2 := rest_pos p2 hd
  have l1 := rest_le p2 hn
  have l2 := rest_le p2 hd
  have e1 := expo_nd p2 hn
  have e2 := expo_nd p2 hd
  have hsz : (acc ++ List.replicate (c + 1) (0 : Int)).length = i + (c + 1) := by simp [ha]
  refine Ev.ite_pos (by omega) (Ev.ite_pos (by omega) (Ev.ite_pos (by omega) (Ev.bind (pdivide_ev p n p2 p97 hn hnd) (Ev.bind (pdivide_ev p d p2 p97 hd hdd) (Ev.ite_pos (by omega) ?_)))))
  dsimp only
  rw [w64 (x := ((expo p n : Nat) : Int) - ((expo p d : Nat) : Int)) (by omega) (by omega), w64 (by omega) (by omega), Int.toNat_natCast]
  have hset := set_mid acc c (((expo p n : Nat) : Int) - ((expo p d : Nat) : Int))
  rw [ha] at hset
  rw [hset]
  have := ih (i + 1) (rest p n) (rest p d) (acc ++ [((expo p n : Nat) : Int) - ((expo p d : Nat) : Int)]) (by omega) (by simp; omega) r1 r2 (Nat.le_trans (nd_mono l1) hnd) (Nat.le_trans (nd_mono l2) hdd)
  rw [il_length] at this
  simpa using this
theorem pfactor_ev (ps : List Nat) (hps : ps.length ≤ 100) (hr : ∀ p ∈ ps, 2 ≤ p ∧ p ≤ 97) (n d : Nat) (hn : 1 ≤ n) (hd : 1 ≤ d) (hnd : nDigits n ≤ 100000) (hdd : nDigits d ≤ 100000) :
  Ev (fun k => prime_factor.f k (il ps) (ns n) (ns d)) ((ofX ps n d).1, oneB (ofX ps n d).2) := by
 unfold prime_factor.f
 rw [il_length]
 refine Ev.bindc (sign_pos hn _) (Ev.ite_neg (by decide) (Ev.ite_pos (by omega) (Ev.ite_pos (by omega) ?_)))
 have := pfactor_loop ps hps hr ps.length 0 n d [] (by omega) rfl hn hd hnd hdd
 rw [il_length] at this
 simpa using this
theorem far_eq (l : List Int) : l.any farEntry = far l := by
 unfold far
 congr 1
 funext n
 unfold farEntry
 rw [Bool.decide_or]
theorem pFactor_ev (ps : List Nat) (hps : ps.length ≤ 100) (hr : ∀ p ∈ ps, 2 ≤ p ∧ p ≤ 97) (hpe : primeErr (il ps) = 0) (n d : Nat) (hn : 1 ≤ n) (hd : 1 ≤ d) (hnd : nDigits n ≤ 400) (hdd : nDigits d ≤ 400)
  (h : Ev (fun k => fraction_Check.f k (ns n) (ns d)) 0) : Ev (fun k => prime_Factor.f k (il ps) (ns n) (ns d)) (ofR (ofX ps n d).1 (ofX ps n d).2.1 (ofX ps n d).2.2) := by
 unfold prime_Factor.f
 have ho : Ev (fun k => prime_open.f k (il ps) (ns n) (ns d)) 0 := by
  unfold prime_open.f
  exact Ev.bind (primeCheck_ev _) (Ev.ite_pos hpe (Ev.bindr h rfl))
 refine Ev.bind ho (Ev.ite_pos rfl (Ev.bindc (sign_pos hn _) (Ev.ite_neg (by decide) (Ev.bind (pfactor_ev ps hps hr n d hn hd (by omega) (by omega)) ?_))))
 unfold ofR
 by_cases h1 : (ofX ps n d).2.1 = 1 ∧ (ofX ps n d).2.2 = 1
 ·rw [if_pos h1]
  refine Ev.ite_pos (oneB_yes h1) (Ev.bindc rfl ?_)
  rw [far_eq]
  by_cases h2 : far (ofX ps n d).1 = true
  ·exact Ev.eq (Ev.ite_pos h2 (Ev.val rfl)) (if_pos h2).symm
  ·exact Ev.eq (Ev.ite_neg h2 (Ev.val rfl)) (if_neg h2).symm
 ·exact Ev.eq (Ev.ite_neg (by rw [oneB_no h1]; simp) (Ev.val rfl)) (if_neg h1).symm
def powR (N : Nat) : ByteArray × Bool := if nDigits N ≤ 400 then (ns N, true) else (⟨#[]⟩, false)
theorem numL_pos2 : ∀ (ps : List Nat) (xs : List Int), (∀ p ∈ ps, 2 ≤ p ∧ p ≤ 97) → 1 ≤ numL ps xs
 | [], _, _ => by simp [numL]
 | _ :: _, [], _ => by simp [numL]
 | p :: ps, x :: xs, h => by
  rw [numL]
  have h1 := numL_pos2 ps xs (fun q hq => h q (by simp [hq]))
  have h2 := h p (by simp)
  exact Nat.mul_pos (Nat.pow_pos (by omega)) h1
theorem ppower_inner (ps : List Nat) (xs : List Int) (s : Int) (i p R : Nat) (hp : 2 ≤ p) (hp2 : p ≤ 97) (hi : i ≤ 1000) (hR : 1 ≤ R) (m : Nat) (hm : m ≤ 1000)
  (hk : ∀ A, 1 ≤ A → nDigits A ≤ 400 → Ev (fun k => prime_power.l0 k xs s (ns A) (il ps) (ps.length : Int) ((i : Int) + 1)) (powR (A * R))) :
  ∀ (d j A : Nat), m = j + d → 1 ≤ A → nDigits A ≤ 400 → Ev (fun k => prime_power.l1 k xs s (ns A) (p : Int) (il ps) (ps.length : Int) (i : Int) (m : Int) (j : Int)) (powR (A * (p ^ d * R))) := by
 intro d
 induction d with
 | zero =>
  intro j A hj hA hd
  refine Ev.succ ?_
  simp only [prime_power.l1]
  rw [w64 (x := (i : Int) + 1) (by omega) (by omega), Nat.pow_zero, Nat.one_mul]
  exact Ev.ite_neg (by omega) (hk A hA hd)
 | succ d ih =>
  intro j A hj hA hd
  refine Ev.succ ?_
  simp only [prime_power.l1]
  have hpd : nDigits p ≤ 2 := nd_le (by omega) (by decide)
  refine Ev.ite_pos (by omega) (Ev.bindc (wof_ns (by omega)) (Ev.bind (wmul_ns A p (by omega) (by omega)) ?_))
  rw [ns_size, w64 (by omega) (by omega)]
  have e : A * (p ^ (d + 1) * R) = A * p * (p ^ d * R) := by rw [Nat.pow_succ]; simp only [Nat.mul_assoc, Nat.mul_left_comm, Nat.mul_comm]
  have hpos : 1 ≤ p ^ d * R := Nat.mul_pos (Nat.pow_pos (by omega)) hR
  rw [e]
  by_cases h : nDigits (A * p) ≤ 400
  ·exact Ev.ite_neg (by omega) (ih (j + 1) (A * p) (by omega) (Nat.mul_pos hA (by omega)) h)
  ·refine Ev.ite_pos (by omega) (Ev.val ?_)
   unfold powR
   have hle : A * p ≤ A * p * (p ^ d * R) := Nat.le_mul_of_pos_right _ hpos
   have := nd_mono hle
   rw [if_neg (by omega)]
theorem ppower_loop (ps : List Nat) (xs : List Int) (s : Int) (hs : s = 1 ∨ s = -1) (hl : xs.length = ps.length) (hps : ps.length ≤ 100) (hr : ∀ p ∈ ps, 2 ≤ p ∧ p ≤ 97) (hx : ∀ x ∈ xs, -1000 ≤ x ∧ x ≤ 1000) :
  ∀ (c i A : Nat), ps.length = i + c → 1 ≤ A → nDigits A ≤ 400 → Ev (fun k => prime_power.l0 k xs s (ns A) (il ps) (ps.length : Int) (i : Int)) (powR (A * numL (ps.drop i) ((xs.map fun x => s * x).drop i))) := by
 intro c
 induction c with
 | zero =>
  intro i A hi hA hd
  refine Ev.succ ?_
  simp only [prime_power.l0]
  rw [List.drop_of_length_le (by omega), List.drop_of_length_le (by simp; omega)]
  refine Ev.ite_neg (by omega) (Ev.val ?_)
  simp only [numL, Nat.mul_one]
  unfold powR
  rw [if_pos hd]
 | succ c ih =>
  intro i A hi hA hd
  have hlt : i < ps.length := by omega
  obtain ⟨p2, p97⟩ := hr _ (getDN_mem ps i hlt)
  obtain ⟨x0, x1⟩ := hx _ (getDI_mem xs i (by omega))
  refine Ev.succ ?_
  simp only [prime_power.l0, il_length]
  have hxm : (xs.map fun x => s * x).getD i 0 = s * xs.getD i 0 := by
   rw [List.getD_eq_getElem?_getD, List.getD_eq_getElem?_getD, List.getElem?_map, List.getElem?_eq_getElem (by omega)]; rfl
  rw [rd_nat, rd_nat, il_getD, drop_getDN ps i hlt, drop_getD (xs.map fun x => s * x) i (by simp; omega), numL, hxm]
  generalize ps.getD i 0 = p at *
  generalize xs.getD i 0 = x at *
  have hb : -1000 ≤ s * x ∧ s * x ≤ 1000 := by rcases hs with rfl | rfl <;> omega
  have hmx : mx (wrap64 (s * x)) 0 = (((s * x).toNat : Nat) : Int) := by
   rw [w64 (by omega) (by omega)]; unfold mx; split <;> omega
  rw [hmx]
  refine Ev.ite_pos (by omega) (Ev.ite_pos (by omega) (Ev.ite_pos (by omega) (Ev.ite_pos (by omega) ?_)))
  have hR := numL_pos2 (ps.drop (i + 1)) ((xs.map fun x => s * x).drop (i + 1)) (fun q hq => hr q (List.mem_of_mem_drop hq))
  exact ppower_inner ps xs s i p _ p2 p97 (by omega) hR (s * x).toNat (by omega) (fun A hA hd => by
   have := ih (i + 1) A (by omega) hA hd
   exact this) (s * x).toNat 0 A (by omega) hA hd
theorem ppower_ev (ps : List Nat) (xs : List Int) (s : Int) (hs : s = 1 ∨ s = -1) (hl : xs.length = ps.length) (hps : ps.length ≤ 100) (hr : ∀ p ∈ ps, 2 ≤ p ∧ p ≤ 97) (hx : ∀ x ∈ xs, -1000 ≤ x ∧ x ≤ 1000) :
  Ev (fun k => prime_power.f k (il ps) xs s) (powR (numL ps (xs.map fun x => s * x))) := by
 unfold prime_power.f
 have h1 : nDigits 1 = 1 := nDigits_small (by decide)
 have := ppower_loop ps xs s hs hl hps hr hx ps.length 0 1 (by omega) (by omega) (by omega)
 rw [List.drop_zero, List.drop_zero, Nat.one_mul, ← ns1] at this
 rw [il_length]
 exact this
theorem fits_val (p x : List Int) : prime_fits.f p x = some (chk p x) := by
 unfold prime_fits.f chk prime_far.f
 by_cases h : x.length = p.length
 ·rw [if_pos (by omega), if_pos h, Option.bind_some, far_eq]
  split <;> rfl
 ·rw [if_neg (by omega), if_neg h]
theorem Fit.pvalue {ps : List Nat} {xs : List Int} (h : Fit ps xs) : Ev (fun k => prime_Value.f k (il ps) xs) (if nDigits (numL ps xs) ≤ 400 ∧ nDigits (denL ps xs) ≤ 400 then (ns (numL ps xs), ns (denL ps xs), 0) else (⟨#[]⟩, ⟨#[]⟩, 4)) := by
 unfold prime_Value.f
 have hle := h.few
 have a := ppower_ev ps xs 1 (.inl rfl) h.len (by omega) h.rng h.near
 have b := ppower_ev ps xs (-1) (.inr rfl) h.len (by omega) h.rng h.near
 rw [show (xs.map fun x => (1 : Int) * x) = xs by simp] at a
 rw [show (xs.map fun x => (-1 : Int) * x) = xs.map fun x => -x by simp, ← denL_neg] at b
 refine Ev.bind (primeCheck_ev _) (Ev.ite_pos h.err (Ev.bindc (fits_val _ _) (Ev.ite_pos h.chk (Ev.bind a (Ev.bind b ?_)))))
 by_cases h1 : nDigits (numL ps xs) ≤ 400
 ·have e1 : powR (numL ps xs) = (ns (numL ps xs), true) := if_pos h1
  rw [e1]
  by_cases h2 : nDigits (denL ps xs) ≤ 400
  ·have e2 : powR (denL ps xs) = (ns (denL ps xs), true) := if_pos h2
   rw [e2]
   exact Ev.eq (Ev.ite_pos rfl (Ev.ite_pos rfl (Ev.val rfl))) (if_pos ⟨h1, h2⟩).symm
  ·have e2 : powR (denL ps xs) = (⟨#[]⟩, false) := if_neg h2
   rw [e2]
   exact Ev.eq (Ev.ite_pos rfl (Ev.ite_neg (by simp) (Ev.val rfl))) (if_neg (fun e => h2 e.2)).symm
 ·have e1 : powR (numL ps xs) = (⟨#[]⟩, false) := if_neg h1
  rw [e1]
  exact Ev.eq (Ev.ite_neg (by simp) (Ev.val rfl)) (if_neg (fun e => h1 e.1)).symm
theorem Fit.pfactor {ps : List Nat} {xs : List Int} (h : Fit ps xs) (h1 : nDigits (numL ps xs) ≤ 400) (h2 : nDigits (denL ps xs) ≤ 400) : Ev (fun k => prime_Factor.f k (il ps) (ns (numL ps xs)) (ns (denL ps xs))) (xs, 0) := by
 have hn := numL_pos ps xs h.apart
 have hd := denL_pos ps xs h.apart
 have := pFactor_ev ps (by have := h.few; omega) h.rng h.err _ _ hn hd h1 h2 (fcheck_ok _ _ hd (num_den_cop ps xs h.apart) h1 h2)
 refine Ev.eq this ?_
 rw [ofX_num_den ps xs h.apart h.len]
 unfold ofR
 rw [if_pos ⟨rfl, rfl⟩, h.notfar]; rfl
theorem fit235 {xs : List Int} (hl : xs.length = 3) (hx : ∀ x ∈ xs, -1000 ≤ x ∧ x ≤ 1000) : Fit [2, 3, 5] xs := ⟨hl, by decide, by decide, by decide +kernel, ⟨by decide, by decide, by decide, by decide, by decide, by decide, trivial⟩, hx⟩
theorem nd_tiny {n : Nat} (h : n < 100) : nDigits n ≤ 2 := nd_le (by omega) (by decide)
theorem ns81' : (⟨#[56, 49]⟩ : ByteArray) = ns 81 := by unfold ns; rw [dec_big (by decide), dec_small (by decide)]; rfl
theorem ns80' : (⟨#[56, 48]⟩ : ByteArray) = ns 80 := by unfold ns; rw [dec_big (by decide), dec_small (by decide)]; rfl
theorem known11_ev : Ev (fun k => schismalaw11_known.f k) true := by
 unfold schismalaw11_known.f
 have e235 : ([2, 3, 5] : List Int) = il [2, 3, 5] := rfl
 have f1 : Fit [2, 3, 5] [-4, 4, -1] := fit235 rfl (by decide)
 have f2 : Fit [2, 3, 5] [1, -2, 1] := fit235 rfl (by decide)
 have n1 : numL [2, 3, 5] [-4, 4, -1] = 81 := by decide
 have d1 : denL [2, 3, 5] [-4, 4, -1] = 80 := by decide
 have n2 : numL [2, 3, 5] [1, -2, 1] = 10 := by decide
 have d2 : denL [2, 3, 5] [1, -2, 1] = 9 := by decide
 have q1 := nd_tiny (show 81 < 100 by decide)
 have q2 := nd_tiny (show 80 < 100 by decide)
 have q3 := nd_tiny (show 10 < 100 by decide)
 have q4 := nd_tiny (show 9 < 100 by decide)
 have fa := f1.pfactor (by rw [n1]; omega) (by rw [d1]; omega)
 rw [n1, d1, ← ns81', ← ns80'] at fa
 have va := f2.pvalue
 rw [n2, d2, if_pos ⟨by omega, by omega⟩] at va
 rw [e235]
 refine Ev.bind (first_ev 4 (by decide) (by decide)) (Ev.bind fa (Ev.bind va (Ev.ite_pos rfl (Ev.ite_pos rfl (Ev.ite_pos rfl (Ev.bind (equalP_ev _ _ (by decide)) (Ev.ite_pos (by decide) (Ev.bind (equalR_ev _ _ (by decide)) (Ev.ite_pos (by decide) (Ev.ite_pos ?_ (Ev.bind (isPrime_ev 97) (Ev.ite_pos (by decide) (Ev.bindr (isPrime_ev 91) (by decide))))))))))))))
 dsimp only
 rw [ns_list, ns_list, dec_big (by decide), dec_small (by decide), dec_small (by decide)]
 rfl
end Go.Proofs.YtccebdpjdpjgnaaGreatDoor.Q
