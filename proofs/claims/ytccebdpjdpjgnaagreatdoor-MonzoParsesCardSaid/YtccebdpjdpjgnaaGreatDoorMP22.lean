/-
Plain laws: the functions of whole on numerals of integers.
-/
import Derived.Test.YtccebdpjdpjgnaaGreatDoorMP19
import Derived.Test.YtccebdpjdpjgnaaGreatDoorMP21
set_option linter.unusedVariables false
set_option linter.unusedSimpArgs false
namespace Go.Proofs.YtccebdpjdpjgnaaGreatDoor.Q
open Go.Lib hiding bytesOf bytesOf_length
open Go Go.RowKit Sch Go.Proofs.YtccebdpjdpjgnaaGreatDoor.P Go.Proofs.YtccebdpjdpjgnaaGreatDoorW.PrintWords Go.Proofs.YtccebdpjdpjgnaaGreatDoorW.PrintLast Go.Proofs.YtccebdpjdpjgnaaGreatDoorW.PrintMore
set_option linter.unusedVariables false
set_option linter.unusedSimpArgs false
theorem bytes_ext {s t : ByteArray} (h : s.data.toList = t.data.toList) : s = t := by
 cases s; cases t; simp only at h; congr; exact Array.toList_inj.1 h
theorem bt_head (c : UInt8) (l : List UInt8) : bt (⟨(c :: l).toArray⟩ : ByteArray) 0 = (c.toNat : Int) := by
 unfold bt
 rw [dif_pos (by simp [ByteArray.size])]
 rfl
theorem ns_head (n : Nat) : bt (ns n) 0 ≠ 45 := by
 obtain ⟨c, r, e, h1, h2⟩ := head_digit n
 unfold ns
 rw [e, bt_head]
 omega
theorem zs_size (z : Int) : (zs z).size = if z < 0 then nDigits z.natAbs + 1 else nDigits z.natAbs := by
 rcases nat_or_neg z with ⟨n, rfl⟩ | ⟨n, hn, rfl⟩
 ·rw [zs_nat, ns_size, if_neg (by omega)]; simp
 ·rw [zs_neg hn, if_pos (by omega)]
  simp only [ByteArray.size, List.size_toArray, List.length_cons, decDigits_length, Int.natAbs_neg, Int.natAbs_natCast]
theorem ext_tail (c : UInt8) (l : List UInt8) : (⟨(c :: l).toArray⟩ : ByteArray).extract 1 (⟨(c :: l).toArray⟩ : ByteArray).size = ⟨l.toArray⟩ := by
 apply bytes_ext
 rw [extract_data]
 simp [ByteArray.size]
theorem split_zs (z : Int) : whole_split.f (zs z) = some (decide (z < 0), ns z.natAbs) := by
 unfold whole_split.f
 rcases nat_or_neg z with ⟨n, rfl⟩ | ⟨n, hn, rfl⟩
 ·have hp := nDigits_pos n
  rw [zs_nat, ns_size, if_pos (by omega), if_pos (by omega), if_neg (ns_head n)]
  simp
 ·have hs := zs_size (-(n : Int))
  rw [if_pos (by omega)] at hs
  rw [hs, if_pos (by omega), if_pos (by omega), zs_neg hn, bt_head, if_pos (by decide), if_pos (by omega)]
  have := ext_tail 45 (decDigits n)
  have e2 : (zs (-(n : Int))).size = nDigits (-(n : Int)).natAbs + 1 := hs
  rw [← e2, zs_neg hn, this]
  simp only [Int.natAbs_neg, Int.natAbs_natCast]
  rw [decide_eq_true (by omega)]
  rfl
theorem join_zs (s : Bool) (n : Nat) (h : nDigits n ≤ 1000000) : whole_join.f s (ns n) = some (zs (if s = true then -(n : Int) else n)) := by
 unfold whole_join.f
 by_cases hs : s = true
 ·rw [if_pos hs, if_pos hs]
  by_cases hn : n = 0
  ·subst hn
   rw [if_pos (ns_eq0.2 rfl)]
   rfl
  ·rw [if_neg (by rw [ns_eq0]; exact hn), ns_size, if_pos (by omega), zs_neg hn]
   rfl
 ·rw [if_neg hs, if_neg hs, zs_nat]
theorem little_bound {z : Int} {k : Nat} (h : (zs z).size ≤ k) (hk : k ≤ 18) : -1000000000000000000 < z ∧ z < 1000000000000000000 := by
 rw [zs_size] at h
 have h1 : nDigits z.natAbs ≤ 18 := by split at h <;> omega
 have := nd18 h1
 omega
theorem little_zs (z : Int) (k : Nat) (hk : k ≤ 18) : whole_little.f (zs z) (k : Int) = some (if (zs z).size ≤ k then (z, true) else (0, false)) := by
 unfold whole_little.f
 by_cases h : (zs z).size ≤ k
 ·have := little_bound h hk
  rw [if_neg (by omega), if_pos h, atoi_zs (by omega) (by omega)]
  rfl
 ·rw [if_pos (by omega), if_neg h]
theorem wof_zs {z : Int} (h0 : -9223372036854775808 ≤ z) (h1 : z ≤ 9223372036854775807) : whole_Of.f z = some (zs z) := by
 unfold whole_Of.f strconv_Itoa.f
 rw [if_pos ⟨h0, h1⟩]
 rfl
theorem zs_eq0 {z : Int} : ((zs z).toList = ([48] : List UInt8)) ↔ z = 0 := by
 rcases nat_or_neg z with ⟨n, rfl⟩ | ⟨n, hn, rfl⟩
 ·rw [zs_nat, ns_eq0]; omega
 ·rw [zs_neg hn, toList_data]
  constructor
  ·intro h; simp at h
  ·intro h; omega
theorem sign_zs (z : Int) : whole_Sign.f (zs z) = some (cmpI z 0) := by
 unfold whole_Sign.f cmpI
 by_cases h0 : z = 0
 ·rw [if_pos (zs_eq0.2 h0), h0]; rfl
 ·rw [if_neg (fun e => h0 (zs_eq0.1 e))]
  have hs := zs_size z
  have hp := nDigits_pos z.natAbs
  rw [if_pos (by split at hs <;> omega)]
  rcases nat_or_neg z with ⟨n, rfl⟩ | ⟨n, hn, rfl⟩
  ·rw [zs_nat, if_neg (ns_head n), if_neg (show ¬ ((n : Int) < 0) by omega), if_neg h0]
  ·rw [zs_neg hn, bt_head, if_pos (by decide), if_pos (show -(n : Int) < 0 by omega)]
theorem wabs_zs (z : Int) : whole_Abs.f (zs z) = some (ns z.natAbs) := by
 unfold whole_Abs.f
 rw [split_zs]; rfl
theorem wof_ns {n : Nat} (h : n ≤ 9223372036854775807) : whole_Of.f (n : Int) = some (ns n) := by rw [wof_zs (by omega) (by omega), zs_nat]
theorem wdivmod_ns (a b : Nat) (ha : nDigits a ≤ 100000) (hb : nDigits b ≤ 100000) (h0 : b ≠ 0) : Ev (fun k => whole_DivMod.f k (ns a) (ns b)) (ns (a / b), ns (a % b), 0) := by
 unfold whole_DivMod.f
 have dq : nDigits (a / b) ≤ nDigits a := nd_mono (Nat.div_le_self _ _)
 have dr : nDigits (a % b) ≤ nDigits a := nd_mono (Nat.mod_le _ _)
 have hj : Ev (fun k => whole_DivMod.j1 k (ns a) (ns b)) (ns (a / b), ns (a % b), 0) := by
  refine Ev.succ ?_
  simp only [whole_DivMod.j1]
  have sa := split_zs (a : Int)
  have sb := split_zs (b : Int)
  rw [zs_nat] at sa sb
  rw [decide_eq_false (by omega)] at sa sb
  simp only [Int.natAbs_natCast] at sa sb
  refine Ev.bindc sa (Ev.bindc sb (Ev.bind (divmod_ev a b ha hb h0) (Ev.ite_pos rfl (Ev.ite_neg (by simp) (Ev.succ ?_)))))
  simp only [whole_DivMod.j2]
  refine Ev.ite_neg (by simp) (Ev.bindc (join_zs _ _ (by omega)) (Ev.bindc (join_zs _ _ (by omega)) (Ev.val ?_)))
  show some (zs ((a / b : Nat) : Int), zs ((a % b : Nat) : Int), (0 : Int)) = _
  rw [zs_nat, zs_nat]
 refine Ev.ite_neg (by rw [ns_eq0]; exact h0) (Ev.bindc (by rw [← zs_nat]; exact little_zs a 18 (by decide)) ?_)
 by_cases h1 : (zs (a : Int)).size ≤ 18
 ·rw [if_pos h1]
  refine Ev.ite_pos rfl (Ev.bindc (by rw [← zs_nat]; exact little_zs b 18 (by decide)) ?_)
  by_cases h2 : (zs (b : Int)).size ≤ 18
  ·rw [if_pos h2]
   have l1 := little_bound h1 (by decide)
   have l2 := little_bound h2 (by decide)
   have hq : a / b ≤ a := Nat.div_le_self _ _
   have hr : a % b ≤ a := Nat.mod_le _ _
   refine Ev.ite_pos rfl (Ev.ite_neg (by simpa using h0) ?_)
   have hqb : a / b ≤ 9223372036854775807 := Nat.le_trans hq (by omega)
   have hrb : a % b ≤ 9223372036854775807 := Nat.le_trans hr (by omega)
   have e1 : Int.tmod (a : Int) (b : Int) = ((a % b : Nat) : Int) := by rw [Int.tmod_eq_emod_of_nonneg (by omega), ← Int.natCast_emod]
   have q0 : (0 : Int) ≤ ((a / b : Nat) : Int) := Int.natCast_nonneg _
   have e2 : wrap64 (Int.tdiv (a : Int) (b : Int)) = ((a / b : Nat) : Int) := by rw [Int.tdiv_eq_ediv_of_nonneg (by omega), ← Int.natCast_ediv, w64 (by omega) (by omega)]
   have hj0 : Ev (fun k => whole_DivMod.j0 k (b : Int) ((a / b : Nat) : Int) ((a % b : Nat) : Int) false) (ns (a / b), ns (a % b), 0) := by
    refine Ev.succ ?_
    simp only [whole_DivMod.j0]
    refine Ev.ite_neg (by simp) (Ev.val ?_)
    rw [wof_ns hqb, wof_ns hrb]
    simp only [Option.bind_some]
   dsimp only
   have r0 : (0 : Int) ≤ ((a % b : Nat) : Int) := Int.natCast_nonneg _
   have d1 : decide (((a % b : Nat) : Int) < 0) = false := decide_eq_false (by omega)
   have d2 : decide ((b : Int) < 0) = false := decide_eq_false (by omega)
   rw [e1, e2, d1, d2]
   simp only [bne_self_eq_false, ite_self]
   exact hj0
  ·rw [if_neg h2]
   exact Ev.ite_neg (by simp) hj
 ·rw [if_neg h1]
  exact Ev.ite_neg (by simp) hj
theorem igcd_ev (b : Nat) : ∀ a : Nat, Ev (fun k => whole_gcd.f k (a : Int) (b : Int)) ((Nat.gcd b a : Nat) : Int) := by
 unfold whole_gcd.f
 induction b using Nat.strongRecOn with
 | _ b ih =>
  intro a
  refine Ev.succ ?_
  simp only [whole_gcd.l0]
  by_cases h0 : b = 0
  ·subst h0
   exact Ev.ite_pos rfl (Ev.val (by rw [Nat.gcd_zero_left]))
  ·refine Ev.ite_neg (by omega) ?_
   have hm := Nat.mod_lt a (show b > 0 by omega)
   rw [Nat.gcd_rec b a, Int.tmod_eq_emod_of_nonneg (by omega), ← Int.natCast_emod]
   exact ih (a % b) hm b
theorem wgcd_ev (a b : Int) (ha : nDigits a.natAbs ≤ 100000) (hb : nDigits b.natAbs ≤ 100000) : Ev (fun k => whole_Gcd.f k (zs a) (zs b)) (ns (Nat.gcd b.natAbs a.natAbs)) := by
 unfold whole_Gcd.f
 refine Ev.bindc (wabs_zs a) (Ev.bindc (wabs_zs b) ?_)
 have hj : Ev (fun k => (decimal_Gcd.f k (ns a.natAbs) (ns b.natAbs)).bind fun t => some t) (ns (Nat.gcd b.natAbs a.natAbs)) := Ev.bindr (gcd_ev _ _ ha hb) rfl
 generalize a.natAbs = m at *
 generalize b.natAbs = n at *
 refine Ev.bindc (by rw [← zs_nat]; exact little_zs m 18 (by decide)) ?_
 by_cases h1 : (zs (m : Int)).size ≤ 18
 ·rw [if_pos h1]
  refine Ev.ite_pos rfl (Ev.bindc (by rw [← zs_nat]; exact little_zs n 18 (by decide)) ?_)
  by_cases h2 : (zs (n : Int)).size ≤ 18
  ·rw [if_pos h2]
   have l1 := little_bound h1 (by decide)
   have l2 := little_bound h2 (by decide)
   refine Ev.ite_pos rfl (Ev.bindr (igcd_ev n m) ?_)
   have : Nat.gcd n m ≤ n + m := by
    rcases Nat.eq_zero_or_pos n with h | h
    ·subst h; simp
    ·have := Nat.gcd_le_left m h; omega
   rw [wof_ns (by omega)]; rfl
  ·rw [if_neg h2]
   exact Ev.ite_neg (by simp) hj
 ·rw [if_neg h1]
  exact Ev.ite_neg (by simp) hj
theorem wcheck_ev (s : ByteArray) (hs : s.size ≤ 140737488355328) :
  (∃ z, s = zs z ∧ nDigits z.natAbs ≤ 400 ∧ Ev (fun k => whole_Check.f k s) 0) ∨ ((∀ z, s = zs z → 400 < nDigits z.natAbs) ∧ Ev (fun k => whole_Check.f k s) 2) := by
 by_cases hz : ∃ z, s = zs z
 ·obtain ⟨z, rfl⟩ := hz
  have hd : (ns z.natAbs).size ≤ 140737488355328 := by
   rw [ns_size]; rw [zs_size] at hs; split at hs <;> omega
  have hck := dcheck_ev (ns z.natAbs) hd
  rw [ns_size] at hck
  have hev : Ev (fun k => whole_Check.f k (zs z)) (if nDigits z.natAbs ≤ 400 then 0 else 2) := by
   unfold whole_Check.f
   refine Ev.bindc (split_zs z) ?_
   have h2 : Ev (fun k => (decimal_Check.f k (ns z.natAbs)).bind fun t129 => (if t129 = 0 then (some 0) else (some (2 : Int)))) (if nDigits z.natAbs ≤ 400 then 0 else 2) := by
    refine Ev.bindr hck ?_
    rw [ns_canon]
    by_cases h : nDigits z.natAbs ≤ 400
    ·have e : (if (true = true ∧ nDigits z.natAbs ≤ 400) then (0 : Int) else 2) = 0 := if_pos ⟨rfl, h⟩
     rw [if_pos h, e]; rfl
    ·have e : (if (true = true ∧ nDigits z.natAbs ≤ 400) then (0 : Int) else 2) = 2 := if_neg (fun e => h e.2)
     rw [if_neg h, e]; rfl
   by_cases h : z < 0
   ·rw [decide_eq_true h]
    refine Ev.ite_pos rfl (Ev.ite_neg (by rw [ns_eq0]; omega) h2)
   ·rw [decide_eq_false h]
    exact Ev.ite_neg (by simp) h2
  by_cases h : nDigits z.natAbs ≤ 400
  ·left; exact ⟨z, rfl, h, Ev.eq hev (if_pos h)⟩
  ·right
   refine ⟨fun y hy => ?_, Ev.eq hev (if_neg h)⟩
   have : (whole_split.f (zs z)) = whole_split.f (zs y) := by rw [hy]
   rw [split_zs, split_zs] at this
   injection this with this
   injection this with _ this
   rw [← ns_inj this]; omega
 ·right
  refine ⟨fun z hz2 => absurd ⟨z, hz2⟩ hz, ?_⟩
  unfold whole_Check.f
  have hno : ∀ t : ByteArray, t.size ≤ 140737488355328 → (canonB t.data.toList = true → False) → Ev (fun k => (decimal_Check.f k t).bind fun t129 => (if t129 = 0 then (some 0) else (some (2 : Int)))) 2 := by
   intro t ht hc
   refine Ev.bindr (dcheck_ev t ht) ?_
   have e : (if (canonB t.data.toList = true ∧ t.size ≤ 400) then (0 : Int) else 2) = 2 := if_neg (fun e => hc e.1)
   rw [e]; rfl
  have hsp : (∃ t : ByteArray, s = ⟨(45 :: t.data.toList).toArray⟩ ∧ whole_split.f s = some (true, t)) ∨ whole_split.f s = some (false, s) := by
   unfold whole_split.f
   by_cases h0 : (s.size : Int) > 0
   ·rw [if_pos h0, if_pos h0]
    by_cases h1 : bt s 0 = 45
    ·left
     have hl := data_length s
     cases e : s.data.toList with
     | nil => rw [e] at hl; simp at hl; omega
     | cons c r =>
      have es : s = ⟨(c :: r).toArray⟩ := by apply bytes_ext; rw [e]
      rw [es, bt_head] at h1
      have hc : c = 45 := UInt8.toNat_inj.1 (by have : (45 : UInt8).toNat = 45 := rfl; omega)
      subst hc
      refine ⟨⟨r.toArray⟩, es, ?_⟩
      rw [es] at h0 ⊢
      rw [bt_head, if_pos h1, if_pos (by omega), ext_tail]
    ·right; rw [if_neg h1]
   ·right; rw [if_neg h0]
  rcases hsp with ⟨t, es, hsp⟩ | hsp
  ·refine Ev.bindc hsp (Ev.ite_pos rfl ?_)
   have hts : t.size ≤ 140737488355328 := by
    have := congrArg ByteArray.size es
    simp only [ByteArray.size, List.size_toArray, List.length_cons] at this
    have h2 := data_length t
    simp only [ByteArray.size] at hs h2 ⊢
    omega
   by_cases ht0 : t.toList = ([48] : List UInt8)
   ·exact Ev.ite_pos ht0 (Ev.val rfl)
   ·refine Ev.ite_neg ht0 (hno t hts (fun hc => ?_))
    have et := canon_ns hc
    apply hz
    have hn0 : dv t.data.toList ≠ 0 := fun e => ht0 (by rw [et, e]; exact ns_eq0.2 rfl)
    refine ⟨-((dv t.data.toList : Nat) : Int), ?_⟩
    rw [zs_neg hn0, es, et, ns_toList, dv_dec]
  ·refine Ev.bindc hsp (Ev.ite_neg (by simp) (hno s hs (fun hc => ?_)))
   exact hz ⟨(dv s.data.toList : Nat), by rw [zs_nat]; exact canon_ns hc⟩
end Go.Proofs.YtccebdpjdpjgnaaGreatDoor.Q
