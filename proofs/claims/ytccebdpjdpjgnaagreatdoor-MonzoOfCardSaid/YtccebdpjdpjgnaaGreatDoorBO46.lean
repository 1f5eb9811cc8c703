/-
Plain laws: the statement MonzoOf.
-/
import Derived.Test.YtccebdpjdpjgnaaGreatDoorBO42
import Derived.Test.YtccebdpjdpjgnaaGreatDoorBO45
import Derived.Test.YtccebdpjdpjgnaaGreatDoorBO44
import Derived.Test.YtccebdpjdpjgnaaGreatDoorBO43
set_option linter.unusedVariables false
set_option linter.unusedSimpArgs false
namespace Go.Proofs.YtccebdpjdpjgnaaGreatDoor.Q
open Go.Lib hiding bytesOf bytesOf_length
open Go Go.RowKit Sch Go.Proofs.YtccebdpjdpjgnaaGreatDoor.P Go.Proofs.YtccebdpjdpjgnaaGreatDoorW.PrintWords Go.Proofs.YtccebdpjdpjgnaaGreatDoorW.PrintLast Go.Proofs.YtccebdpjdpjgnaaGreatDoorW.PrintMore
set_option linter.unusedVariables false
set_option linter.unusedSimpArgs false
theorem int_loop (t : ByteArray) (sg : Int) (ht : t.size ≤ 17) (hsg : sg = 1 ∨ sg = -1) : ∀ (d i : Nat), t.size = i + d → (∀ j (h : j < t.data.toList.length), j < i → isD t.data.toList[j]) →
    Ev (fun k => schismaref04_Int.l0 k t sg ((dv (t.data.toList.take i) : Nat) : Int) (i : Int)) (if t.data.toList.all (fun c => decide (isD c)) = true then (sg * (dv t.data.toList : Nat), true) else (0, false)) := by
  intro d
  induction d with
  | zero =>
    intro i hi hd
    refine Ev.succ ?_
    simp only [schismaref04_Int.l0]
    have hall : ∀ c ∈ t.data.toList, isD c := by
      intro c hc
      obtain ⟨j, hj, rfl⟩ := List.getElem_of_mem hc
      exact hd j hj (by rw [data_length] at hj; omega)
    rw [if_pos (by rw [List.all_eq_true]; exact fun c hc => decide_eq_true (hall c hc)), List.take_of_length_le (by rw [data_length]; omega)]
    have hb := dv_lt _ hall
    rw [data_length] at hb
    have hp : 10 ^ t.size ≤ 10 ^ 17 := Nat.pow_le_pow_right (by decide) ht
    refine Ev.ite_neg (by omega) (Ev.val ?_)
    rw [w64 (by rcases hsg with h | h <;> rw [h] <;> omega) (by rcases hsg with h | h <;> rw [h] <;> omega)]
  | succ d ih =>
    intro i hi hd
    have hlt : i < t.size := by omega
    have hlt2 : i < t.data.toList.length := by rw [data_length]; exact hlt
    refine Ev.succ ?_
    simp only [schismaref04_Int.l0]
    rw [bt_list t i hlt]
    have hno : ¬ isD (t.data.toList[i]'hlt2) → t.data.toList.all (fun c => decide (isD c)) = false := by
      intro hn
      rw [Bool.eq_false_iff]
      intro h
      rw [List.all_eq_true] at h
      exact hn (of_decide_eq_true (h _ (List.getElem_mem hlt2)))
    refine Ev.ite_pos (by omega) (Ev.ite_pos (by omega) ?_)
    by_cases h1 : ((t.data.toList[i]'hlt2).toNat : Int) < 48
    · refine Ev.ite_pos h1 (Ev.val ?_)
      rw [hno (by unfold isD; omega)]; rfl
    · refine Ev.ite_neg h1 ?_
      by_cases h2 : ((t.data.toList[i]'hlt2).toNat : Int) > 57
      · refine Ev.ite_pos h2 (Ev.val ?_)
        rw [hno (by unfold isD; omega)]; rfl
      · refine Ev.ite_neg h2 ?_
        have hpre : ∀ c ∈ t.data.toList.take i, isD c := by
          intro c hc
          obtain ⟨j, hj, rfl⟩ := List.getElem_of_mem hc
          rw [List.length_take] at hj
          rw [List.getElem_take]
          exact hd j (by omega) (by omega)
        have hb := dv_lt _ hpre
        rw [List.length_take, Nat.min_eq_left (by omega)] at hb
        have hp : 10 ^ i ≤ 10 ^ 16 := Nat.pow_le_pow_right (by decide) (by omega)
        have e1 : (((t.data.toList[i]'hlt2).toNat : Int) - 48) % 256 = ((t.data.toList[i]'hlt2).toNat - 48 : Nat) := by omega
        rw [e1, w64 (x := 10 * _) (by omega) (by omega), w64 (x := 10 * _ + _) (by omega) (by omega), w64 (by omega) (by omega)]
        have e2 : t.data.toList.take (i + 1) = t.data.toList.take i ++ [t.data.toList[i]'hlt2] := List.take_succ_eq_append_getElem hlt2
        have := ih (i + 1) (by omega) (fun j hj hji => by
          by_cases hj2 : j = i
          · subst hj2; unfold isD; omega
          · exact hd j hj (by omega))
        rw [e2, dv_snoc] at this
        simpa using this
theorem int_tail (t : ByteArray) (sg : Int) (ht : t.size ≤ 17) (hsg : sg = 1 ∨ sg = -1) :
    Ev (fun k => schismaref04_Int.j1 k t sg) (if canonB t.data.toList = true ∧ (sg = 1 ∨ dv t.data.toList ≠ 0) then (sg * (dv t.data.toList : Nat), true) else (0, false)) := by
  have hbad : Ev (fun k => schismaref04_Int.j2 k t sg true) (0, false) := by
    refine Ev.succ ?_
    simp only [schismaref04_Int.j2]
    exact Ev.ite_pos (by simp) (Ev.val rfl)
  have hgood : Ev (fun k => schismaref04_Int.j2 k t sg false) (if t.data.toList.all (fun c => decide (isD c)) = true then (sg * (dv t.data.toList : Nat), true) else (0, false)) := by
    refine Ev.succ ?_
    simp only [schismaref04_Int.j2]
    refine Ev.ite_neg (by simp) ?_
    have := int_loop t sg ht hsg t.size 0 (by omega) (fun _ _ h => absurd h (by omega))
    simpa [dv] using this
  refine Ev.succ ?_
  simp only [schismaref04_Int.j1]
  have hl := data_length t
  by_cases h0 : t.size = 0
  · refine Ev.ite_pos (by omega) (Ev.eq hbad (if_neg ?_).symm)
    rintro ⟨h, _⟩
    unfold canonB at h
    rw [hl, h0] at h
    simp at h
  · refine Ev.ite_neg (by omega) (Ev.ite_neg (by omega) (Ev.ite_pos (by omega) ?_))
    rw [show (0 : Int) = ((0 : Nat) : Int) from rfl, bt_list t 0 (by omega)]
    have hlt2 : 0 < t.data.toList.length := by omega
    have hh : t.data.toList.head? = some (t.data.toList[0]'hlt2) := by rw [List.head?_eq_getElem?, List.getElem?_eq_getElem hlt2]
    by_cases h48 : ((t.data.toList[0]'hlt2).toNat : Int) = 48
    · have e48 : t.data.toList[0]'hlt2 = 48 := UInt8.toNat_inj.1 (by have : (48 : UInt8).toNat = 48 := rfl; omega)
      refine Ev.ite_pos h48 ?_
      by_cases h1 : t.size > 1
      · refine Ev.ite_pos (by omega) (Ev.eq hbad (if_neg ?_).symm)
        rintro ⟨h, _⟩
        unfold canonB at h
        rw [hl, hh, e48] at h
        simp at h
        omega
      · refine Ev.ite_neg (by omega) ?_
        have et : t.data.toList = [48] := by
          have hl1 : t.data.toList.length = 1 := by omega
          obtain ⟨c, hc⟩ := List.length_eq_one_iff.1 hl1
          rw [hc]
          simp only [hc, List.getElem_cons_zero] at e48
          rw [e48]
        by_cases hs : sg < 0
        · rw [decide_eq_true (by simpa using hs)]
          refine Ev.eq hbad (if_neg ?_).symm
          rintro ⟨_, h | h⟩
          · omega
          · apply h; rw [et]; rfl
        · rw [decide_eq_false (by simpa using hs)]
          refine Ev.eq hgood ?_
          rw [et, if_pos (by decide), if_pos ⟨by decide, by left; omega⟩]
    · refine Ev.ite_neg h48 (Ev.eq hgood ?_)
      have hc : canonB t.data.toList = t.data.toList.all (fun c => decide (isD c)) := by
        unfold canonB
        have : (t.data.toList.length == 1 || (decide (1 < t.data.toList.length) && t.data.toList.head? != some 48)) = true := by
          rw [hl, hh]
          simp only [Bool.or_eq_true, beq_iff_eq, Bool.and_eq_true, decide_eq_true_eq, bne_iff_ne, ne_eq, Option.some.injEq]
          by_cases h1 : t.size = 1
          · exact .inl h1
          · right
            refine ⟨by omega, fun e => h48 ?_⟩
            rw [e]; rfl
        rw [this, Bool.and_true]
      by_cases ha : t.data.toList.all (fun c => decide (isD c)) = true
      · rw [if_pos ha, if_pos]
        refine ⟨by rw [hc]; exact ha, .inr fun e => h48 ?_⟩
        have h1 := eq_dec t.data.toList (by rw [List.all_eq_true] at ha; exact fun c hc => of_decide_eq_true (ha c hc)) (by
          cases et : t.data.toList with
          | nil => rw [et] at hlt2; simp at hlt2
          | cons c r =>
            right
            refine ⟨c, r, rfl, fun ec => h48 ?_⟩
            simp only [et, List.getElem_cons_zero, ec]; rfl)
        rw [e, dec_small (by decide)] at h1
        simp only [h1, List.getElem_cons_zero]; rfl
      · have hn : ¬ (canonB t.data.toList = true ∧ (sg = 1 ∨ dv t.data.toList ≠ 0)) := fun e => ha (by rw [← hc]; exact e.1)
        rw [if_neg ha, if_neg hn]
        try rfl
theorem minus_or (s : ByteArray) : (∃ t : ByteArray, s = ⟨(45 :: t.data.toList).toArray⟩) ∨ (s.size = 0 ∨ bt s 0 ≠ 45) := by
  by_cases h0 : s.size = 0
  · exact .inr (.inl h0)
  · by_cases h1 : bt s 0 = 45
    · left
      have hl := data_length s
      cases e : s.data.toList with
      | nil => rw [e] at hl; simp at hl; omega
      | cons c r =>
        have es : s = ⟨(c :: r).toArray⟩ := by apply bytes_ext; rw [e]
        rw [es, bt_head] at h1
        have hc : c = 45 := UInt8.toNat_inj.1 (by have : (45 : UInt8).toNat = 45 := rfl; omega)
        subst hc
        exact ⟨⟨r.toArray⟩, es⟩
    · exact .inr (.inr h1)
theorem int_ev (s : ByteArray) (hs : s.size ≤ 17) : (∃ z : Int, s = zs z ∧ Ev (fun k => schismaref04_Int.f k s) (z, true)) ∨ ((∀ z, s ≠ zs z) ∧ Ev (fun k => schismaref04_Int.f k s) (0, false)) := by
  unfold schismaref04_Int.f
  rcases minus_or s with ⟨t, es⟩ | hs0
  · have hsz : s.size = t.size + 1 := by
      have h1 := congrArg ByteArray.size es
      have h2 : (⟨(45 :: t.data.toList).toArray⟩ : ByteArray).size = t.size + 1 := by
        show (45 :: t.data.toList).toArray.size = _
        rw [List.size_toArray, List.length_cons, data_length]
      exact h1.trans h2
    have hb : bt s 0 = 45 := by rw [es, bt_head]; rfl
    have hj : ∀ r, Ev (fun k => schismaref04_Int.j1 k t (-1)) r → Ev (fun k => if (s.size : Int) > 0 then (if 0 < (s.size : Int) then (schismaref04_Int.j0 k s 1 ((bt s 0) == 45)) else (none)) else (schismaref04_Int.j0 k s 1 false)) r := by
      intro r hr
      refine Ev.ite_pos (by omega) (Ev.ite_pos (by omega) ?_)
      rw [hb]
      refine Ev.succ ?_
      simp only [schismaref04_Int.j0]
      refine Ev.ite_pos (by simp) (Ev.ite_pos (by omega) ?_)
      have := ext_tail 45 t.data.toList
      rw [← es] at this
      rw [this]
      exact hr
    have ht := int_tail t (-1) (by omega) (.inr rfl)
    by_cases hc : canonB t.data.toList = true ∧ dv t.data.toList ≠ 0
    · left
      rw [if_pos ⟨hc.1, .inr hc.2⟩] at ht
      refine ⟨-((dv t.data.toList : Nat) : Int), ?_, ?_⟩
      · rw [zs_neg hc.2, es, ← ns_toList, ← canon_ns hc.1]
      · refine Ev.eq (hj _ ht) ?_
        rw [Int.neg_mul, Int.one_mul]
    · right
      rw [if_neg (by rintro ⟨h1, h2 | h2⟩; · revert h2; decide
                     · exact hc ⟨h1, h2⟩)] at ht
      refine ⟨fun z hz => ?_, hj _ ht⟩
      rcases nat_or_neg z with ⟨n, rfl⟩ | ⟨n, hn, rfl⟩
      · rw [zs_nat] at hz
        rw [hz] at hb
        exact ns_head n hb
      · rw [zs_neg hn, es] at hz
        have h2 : t.data.toList = decDigits n := by
          have := congrArg (fun b : ByteArray => b.data.toList) hz
          simpa using this
        apply hc
        rw [h2, dv_dec]
        exact ⟨ns_canon n, hn⟩
  · have hj : ∀ r, Ev (fun k => schismaref04_Int.j1 k s 1) r → Ev (fun k => if (s.size : Int) > 0 then (if 0 < (s.size : Int) then (schismaref04_Int.j0 k s 1 ((bt s 0) == 45)) else (none)) else (schismaref04_Int.j0 k s 1 false)) r := by
      intro r hr
      have hj0 : Ev (fun k => schismaref04_Int.j0 k s 1 false) r := by
        refine Ev.succ ?_
        simp only [schismaref04_Int.j0]
        exact Ev.ite_neg (by simp) hr
      by_cases h0 : s.size = 0
      · exact Ev.ite_neg (by omega) hj0
      · refine Ev.ite_pos (by omega) (Ev.ite_pos (by omega) ?_)
        have hb : (bt s 0 == 45) = false := by
          rw [Bool.eq_false_iff]; intro e; rw [beq_iff_eq] at e
          rcases hs0 with h | h
          · exact h0 h
          · exact h e
        rw [hb]; exact hj0
    have ht := int_tail s 1 hs (.inl rfl)
    by_cases hc : canonB s.data.toList = true
    · left
      rw [if_pos ⟨hc, .inl rfl⟩] at ht
      refine ⟨((dv s.data.toList : Nat) : Int), ?_, ?_⟩
      · rw [zs_nat]; exact canon_ns hc
      · refine Ev.eq (hj _ ht) ?_
        rw [Int.one_mul]
    · right
      rw [if_neg (fun e => hc e.1)] at ht
      refine ⟨fun z hz => ?_, hj _ ht⟩
      rcases nat_or_neg z with ⟨n, rfl⟩ | ⟨n, hn, rfl⟩
      · rw [zs_nat] at hz
        apply hc; rw [hz]; exact ns_canon n
      · have hb : bt s 0 = 45 := by rw [hz, zs_neg hn, bt_head]; rfl
        rcases hs0 with h | h
        · rw [hz, zs_neg hn] at h
          simp [ByteArray.size] at h
        · exact h hb
theorem refgcd_ev : ∀ (m : Nat) (a b : Int), b.natAbs = m → a.natAbs ≤ 1000000000000000000 → b.natAbs ≤ 1000000000000000000 → Ev (fun k => schismaref04_Gcd.f k a b) ((Nat.gcd b.natAbs a.natAbs : Nat) : Int) := by
  unfold schismaref04_Gcd.f
  intro m
  induction m using Nat.strongRecOn with
  | _ m ih =>
    intro a b hm ha hb
    refine Ev.succ ?_
    simp only [schismaref04_Gcd.l0]
    by_cases h0 : b = 0
    · subst h0
      refine Ev.ite_pos rfl ?_
      simp only [Int.natAbs_zero, Nat.gcd_zero_left]
      by_cases h1 : a < 0
      · refine Ev.ite_pos h1 (Ev.val ?_)
        rw [w64 (by omega) (by omega)]; congr 1; omega
      · refine Ev.ite_neg h1 (Ev.val ?_)
        congr 1; omega
    · refine Ev.ite_neg h0 ?_
      have h1 := Int.natAbs_tmod a b
      have h2 : a.natAbs % b.natAbs < b.natAbs := Nat.mod_lt _ (by omega)
      have := ih (Int.tmod a b).natAbs (by omega) b (Int.tmod a b) rfl hb (by omega)
      refine Ev.eq this ?_
      rw [h1, ← Nat.gcd_rec]
def ofS (xs : List Int) (n d : Nat) : List Int × Int := if n = 1 ∧ d = 1 then (xs, 0) else ([], 25)
theorem of_l2 (ps : List Nat) (hps : ps.length ≤ 100) (i n p : Nat) (hi : i < ps.length) (hp : ps.getD i 0 = p) (p2 : 2 ≤ p) (acc : List Int) (ha : acc.length ≤ 100) (r : List Int × Int) (c0 : Int) (D : Nat) (hD : 1 ≤ D)
    (hk : Ev (fun k => schismalaw12_of.l0 k (il ps) (n : Int) ((rest p D : Nat) : Int) (acc ++ [c0 - (expo p D : Int)]) ((i : Int) + 1)) r) (hc : -1000 ≤ c0 ∧ c0 ≤ 1000) (he : expo p D ≤ 1000) :
    ∀ (d : Nat) (c : Int), 1 ≤ d → d ≤ 1000000000000000000 → c - (expo p d : Int) = c0 - (expo p D : Int) → rest p d = rest p D → c ≤ c0 → Ev (fun k => schismalaw12_of.l2 k (il ps) (n : Int) (d : Int) acc (i : Int) c) r := by
  intro d
  induction d using Nat.strongRecOn with
  | _ d ih =>
    intro c hd hdb hce hre hcc
    refine Ev.succ ?_
    simp only [schismalaw12_of.l2, il_length]
    rw [rd_nat, il_getD, hp]
    refine Ev.ite_pos (by omega) (Ev.ite_pos (by omega) (Ev.ite_neg (by omega) ?_))
    rw [Int.tmod_eq_emod_of_nonneg (by omega), ← Int.natCast_emod]
    by_cases h : d % p = 0
    · refine Ev.ite_pos (by omega) ?_
      have h1 : d / p < d := Nat.div_lt_self (by omega) (by omega)
      have h2 : 1 ≤ d / p := Nat.div_pos (Nat.le_of_dvd (by omega) (Nat.dvd_of_mod_eq_zero h)) (by omega)
      have e1 := expo_yes p2 hd h
      have e2 := rest_yes p2 hd h
      have q0 : (0 : Int) ≤ ((d / p : Nat) : Int) := Int.natCast_nonneg _
      have q1 : d / p ≤ 1000000000000000000 := by omega
      rw [Int.tdiv_eq_ediv_of_nonneg (by omega), ← Int.natCast_ediv, w64 (x := ((d / p : Nat) : Int)) (by omega) (by omega), w64 (by omega) (by omega)]
      exact ih (d / p) h1 (c - 1) h2 q1 (by omega) (by rw [← e2]; exact hre) (by omega)
    · refine Ev.ite_neg (by omega) (Ev.ite_pos (by omega) ?_)
      rw [expo_no h] at hce
      rw [rest_no h] at hre
      rw [w64 (by omega) (by omega), hre, show c = c0 - (expo p D : Int) by omega]
      exact hk
theorem of_l1 (ps : List Nat) (hps : ps.length ≤ 100) (i d p : Nat) (hi : i < ps.length) (hp : ps.getD i 0 = p) (p2 : 2 ≤ p) (acc : List Int) (r : List Int × Int) (N : Nat) (hN : 1 ≤ N)
    (hk : Ev (fun k => schismalaw12_of.l2 k (il ps) ((rest p N : Nat) : Int) (d : Int) acc (i : Int) ((expo p N : Nat) : Int)) r) (he : expo p N ≤ 1000) :
    ∀ (n c : Nat), 1 ≤ n → n ≤ 1000000000000000000 → c + expo p n = expo p N → rest p n = rest p N → Ev (fun k => schismalaw12_of.l1 k (il ps) (n : Int) (d : Int) acc (i : Int) (c : Int)) r := by
  intro n
  induction n using Nat.strongRecOn with
  | _ n ih =>
    intro c hn hnb hce hre
    refine Ev.succ ?_
    simp only [schismalaw12_of.l1, il_length]
    rw [rd_nat, il_getD, hp]
    refine Ev.ite_pos (by omega) (Ev.ite_pos (by omega) (Ev.ite_neg (by omega) ?_))
    rw [Int.tmod_eq_emod_of_nonneg (by omega), ← Int.natCast_emod]
    by_cases h : n % p = 0
    · refine Ev.ite_pos (by omega) ?_
      have h1 : n / p < n := Nat.div_lt_self (by omega) (by omega)
      have h2 : 1 ≤ n / p := Nat.div_pos (Nat.le_of_dvd (by omega) (Nat.dvd_of_mod_eq_zero h)) (by omega)
      have e1 := expo_yes p2 hn h
      have e2 := rest_yes p2 hn h
      have q0 : (0 : Int) ≤ ((n / p : Nat) : Int) := Int.natCast_nonneg _
      have q1 : n / p ≤ 1000000000000000000 := by omega
      rw [Int.tdiv_eq_ediv_of_nonneg (by omega), ← Int.natCast_ediv, w64 (x := ((n / p : Nat) : Int)) (by omega) (by omega), w64 (by omega) (by omega)]
      exact ih (n / p) h1 (c + 1) h2 q1 (by omega) (by rw [← e2]; exact hre)
    · refine Ev.ite_neg (by omega) ?_
      rw [expo_no h] at hce
      rw [rest_no h] at hre
      rw [hre, show c = expo p N by omega]
      exact hk
theorem lof_loop (ps : List Nat) (hps : ps.length ≤ 100) (hr : ∀ p ∈ ps, 2 ≤ p ∧ p ≤ 97) : ∀ (c i n d : Nat) (acc : List Int), ps.length = i + c → acc.length = i → 1 ≤ n → 1 ≤ d → n ≤ 1000000000000000000 → d ≤ 1000000000000000000 →
    Ev (fun k => schismalaw12_of.l0 k (il ps) (n : Int) (d : Int) acc (i : Int)) (ofS (acc ++ (ofX (ps.drop i) n d).1) (ofX (ps.drop i) n d).2.1 (ofX (ps.drop i) n d).2.2) := by
  intro c
  induction c with
  | zero =>
    intro i n d acc hi ha hn hd hnd hdd
    refine Ev.succ ?_
    simp only [schismalaw12_of.l0, il_length]
    rw [List.drop_of_length_le (by omega)]
    simp only [ofX, List.append_nil]
    refine Ev.ite_neg (by omega) ?_
    unfold ofS
    by_cases h1 : n = 1
    · refine Ev.ite_pos (by omega) ?_
      by_cases h2 : d = 1
      · exact Ev.ite_pos (by omega) (Ev.val (congrArg some (if_pos ⟨h1, h2⟩).symm))
      · exact Ev.ite_neg (by omega) (Ev.val (congrArg some (if_neg (fun e => h2 e.2)).symm))
    · exact Ev.ite_neg (by omega) (Ev.val (congrArg some (if_neg (fun e => h1 e.1)).symm))
  | succ c ih =>
    intro i n d acc hi ha hn hd hnd hdd
    have hlt : i < ps.length := by omega
    obtain ⟨p2, p97⟩ := hr _ (getDN_mem ps i hlt)
    have hsm : ∀ m : Nat, 1 ≤ m → m ≤ 1000000000000000000 → expo (ps.getD i 0) m ≤ 1000 := fun m h1 h2 => by
      have := expo_nd p2 h1
      have : nDigits m ≤ 19 := nd_le (by omega) (by decide)
      omega
    have l1 := rest_le p2 hn
    have l2 := rest_le p2 hd
    have h0 := ih (i + 1) (rest (ps.getD i 0) n) (rest (ps.getD i 0) d) (acc ++ [((expo (ps.getD i 0) n : Nat) : Int) - ((expo (ps.getD i 0) d : Nat) : Int)]) (by omega) (by simp; omega) (rest_pos p2 hn) (rest_pos p2 hd) (by omega) (by omega)
    have en := hsm n hn hnd
    have h2 := of_l2 ps hps i (rest (ps.getD i 0) n) _ hlt rfl p2 acc (by omega) _ ((expo (ps.getD i 0) n : Nat) : Int) d hd h0 (by omega) (hsm d hd hdd) d _ hd hdd rfl rfl (Int.le_refl _)
    have h1 := of_l1 ps hps i d _ hlt rfl p2 acc _ n hn h2 en n 0 hn hnd (by omega) rfl
    refine Ev.succ ?_
    simp only [schismalaw12_of.l0, il_length]
    refine Ev.ite_pos (by omega) (Ev.eq h1 ?_)
    rw [drop_getDN ps i hlt, ofX]
    simp
theorem ofX_near : ∀ (ps : List Nat) (n d : Nat), (∀ p ∈ ps, 2 ≤ p ∧ p ≤ 97) → 1 ≤ n → 1 ≤ d → n ≤ 1000000000000000000 → d ≤ 1000000000000000000 → far (ofX ps n d).1 = false
  | [], _, _, _, _, _, _, _ => rfl
  | p :: ps, n, d, hr, hn, hd, hnd, hdd => by
    obtain ⟨p2, p97⟩ := hr p (by simp)
    have hsm : ∀ m : Nat, 1 ≤ m → m ≤ 1000000000000000000 → expo p m ≤ 76 := fun m h1 h2 => by
      have := expo_nd p2 h1
      have : nDigits m ≤ 19 := nd_le (by omega) (by decide)
      omega
    have e1 := hsm n hn hnd
    have e2 := hsm d hd hdd
    have l1 := rest_le p2 hn
    have l2 := rest_le p2 hd
    rw [ofX, far_cons, decide_eq_false (by omega), Bool.false_or]
    exact ofX_near ps _ _ (fun q hq => hr q (by simp [hq])) (rest_pos p2 hn) (rest_pos p2 hd) (by omega) (by omega)
theorem lawOf_ev (a0 : Int) (s t : ByteArray) (h0 : 0 ≤ a0) (h1 : a0 ≤ 255) : Ev (fun k => schismalaw12_MonzoOf.f k a0 s t) true := by
  unfold schismalaw12_MonzoOf.f
  refine Ev.bind known_ev (Ev.ite_pos rfl ?_)
  have hout : Ev (fun k => schismalaw12_MonzoOf.j0 k a0 true s t) true := by
    refine Ev.succ ?_
    simp only [schismalaw12_MonzoOf.j0]
    exact Ev.ite_pos (by simp) (Ev.bindr known_ev rfl)
  by_cases hs : (s.size : Int) > 13
  · exact Ev.ite_pos hs hout
  · refine Ev.ite_neg hs ?_
    by_cases ht : (t.size : Int) > 13
    · rw [decide_eq_true ht]; exact hout
    · rw [decide_eq_false ht]
      refine Ev.succ ?_
      simp only [schismalaw12_MonzoOf.j0]
      obtain ⟨ps, hm, hp⟩ := primes_val a0 h0 h1
      have hok := plists_ok ps hm
      obtain ⟨k1, k2, k3, k4⟩ := okL_facts hok
      have hr : ∀ p ∈ ps, 2 ≤ p ∧ p ≤ 97 := fun p hp => by have := k2 p hp; omega
      refine Ev.ite_neg (by simp) (Ev.bindc hp ?_)
      have hdz : ∀ z : Int, (zs z).size ≤ 13 → nDigits z.natAbs ≤ 13 ∧ z.natAbs < 10000000000000 := fun z hz => by
        rw [zs_size] at hz
        have h1 : nDigits z.natAbs ≤ 13 := by split at hz <;> omega
        exact ⟨h1, nd_lt h1⟩
      have gint := int_ev s (by omega)
      have hint := int_ev t (by omega)
      rcases fcheck_ev s t (by omega) (by omega) with ⟨a, b, es, et, hb, hg, da, db, hf⟩ | ⟨hno, hf⟩
      · 
        have ht13 : (zs (b : Int)).size ≤ 13 := by rw [zs_nat, ← et]; omega
        have hs13 : (zs a).size ≤ 13 := by rw [← es]; omega
        obtain ⟨sa1, sa2⟩ := hdz a hs13
        obtain ⟨sb1, sb2⟩ := hdz b ht13
        simp only [Int.natAbs_natCast] at sb1 sb2
        have h1 : Ev (fun k => schismaref04_Int.f k s) (a, true) := by
          rcases gint with ⟨z, e, h⟩ | ⟨h, _⟩
          · rw [es] at e; rw [zs_inj e]; exact h
          · exact absurd es (h a)
        have h2 : Ev (fun k => schismaref04_Int.f k t) ((b : Int), true) := by
          rcases hint with ⟨z, e, h⟩ | ⟨h, _⟩
          · rw [et, ← zs_nat] at e; rw [zs_inj e]; exact h
          · exact absurd (by rw [zs_nat]; exact et) (h b)
        have hparts : Ev (fun k => schismaref04_Parts.f k s t) (a, (b : Int), true) := by
          unfold schismaref04_Parts.f
          refine Ev.bind h1 (Ev.bind h2 (Ev.ite_pos rfl (Ev.ite_pos rfl (Ev.ite_neg (by dsimp only; omega) (Ev.bind (refgcd_ev _ a (b : Int) rfl (by omega) (by simp; omega)) (Ev.ite_pos ?_ (Ev.val rfl)))))))
          rw [Int.natAbs_natCast, Nat.gcd_comm, hg]; rfl
        by_cases ha : a ≤ 0
        · have hof := mof_low ps k3 a ha t (by rw [← es]; exact hf)
          rw [← es] at hof
          refine Ev.bind hof (Ev.bind hparts (Ev.ite_pos rfl (Ev.bind (a := (([] : List Int), (3 : Int))) ?_ (Ev.bind (same_ev [] [] (by simp) (by simp)) (Ev.ite_pos (by simp) (Ev.val rfl))))))
          unfold schismalaw12_of.f
          exact Ev.ite_pos ha (Ev.val rfl)
        · obtain ⟨n, rfl⟩ := Int.eq_ofNat_of_zero_le (show 0 ≤ a by omega)
          simp only [Int.natAbs_natCast] at sa1 sa2 da hg
          rw [zs_nat] at es
          have hof := mof_ev ps (by omega) hr k3 n b (by omega) hb da db (by rw [← es, ← et]; exact hf)
          rw [← es, ← et] at hof
          have hlof : Ev (fun k => schismalaw12_of.f k (il ps) (n : Int) (b : Int)) (ofS (ofX ps n b).1 (ofX ps n b).2.1 (ofX ps n b).2.2) := by
            unfold schismalaw12_of.f
            refine Ev.ite_neg ha ?_
            have := lof_loop ps (by omega) hr ps.length 0 n b [] (by omega) rfl (by omega) hb (by omega) (by omega)
            simpa using this
          have he : ofR (ofX ps n b).1 (ofX ps n b).2.1 (ofX ps n b).2.2 = ofS (ofX ps n b).1 (ofX ps n b).2.1 (ofX ps n b).2.2 := by
            unfold ofR ofS
            rw [ofX_near ps n b hr (by omega) hb (by omega) (by omega)]
            simp
          rw [he] at hof
          have hl : (ofS (ofX ps n b).1 (ofX ps n b).2.1 (ofX ps n b).2.2).1.length ≤ 1000 := by
            unfold ofS
            split
            · have := ofX_length ps n b
              dsimp only
              omega
            · simp
          exact Ev.bind hof (Ev.bind hparts (Ev.ite_pos rfl (Ev.bind hlof (Ev.bind (same_ev _ _ hl hl) (Ev.ite_pos (by simp) (Ev.val (by simp)))))))
      · 
        have hof := mof_bad ps k3 s t hf
        have hparts : Ev (fun k => schismaref04_Parts.f k s t) (0, 0, false) := by
          unfold schismaref04_Parts.f
          rcases gint with ⟨a, es, h1⟩ | ⟨_, h1⟩
          · rcases hint with ⟨d, et, h2⟩ | ⟨_, h2⟩
            · refine Ev.bind h1 (Ev.bind h2 (Ev.ite_pos rfl (Ev.ite_pos rfl ?_)))
              by_cases hd : d ≤ 0
              · exact Ev.ite_pos hd (Ev.val rfl)
              · have hs13 : (zs a).size ≤ 13 := by rw [← es]; omega
                have ht13 : (zs d).size ≤ 13 := by rw [← et]; omega
                obtain ⟨sa1, sa2⟩ := hdz a hs13
                obtain ⟨sb1, sb2⟩ := hdz d ht13
                refine Ev.ite_neg hd (Ev.bind (refgcd_ev _ a d rfl (by omega) (by omega)) (Ev.ite_neg ?_ (Ev.val rfl)))
                intro hg
                have hg2 : Nat.gcd a.natAbs d.natAbs = 1 := by rw [Nat.gcd_comm]; omega
                have hdd : (d.natAbs : Int) = d := by omega
                have := hno a d.natAbs es (by rw [← zs_nat, hdd]; exact et) (by omega) hg2
                omega
            · exact Ev.bind h1 (Ev.bind h2 (Ev.ite_pos rfl (Ev.ite_neg (by simp) (Ev.val rfl))))
          · rcases hint with ⟨d, et, h2⟩ | ⟨_, h2⟩
            · exact Ev.bind h1 (Ev.bind h2 (Ev.ite_neg (by simp) (Ev.val rfl)))
            · exact Ev.bind h1 (Ev.bind h2 (Ev.ite_neg (by simp) (Ev.val rfl)))
        exact Ev.bind hof (Ev.bind hparts (Ev.ite_neg (by simp) (Ev.ite_pos rfl (Ev.val rfl))))
end Go.Proofs.YtccebdpjdpjgnaaGreatDoor.Q
