/-
Plain laws: checks of primes and of rows of exponents; the text of a row.
-/
import Derived.Test.YtccebdpjdpjgnaaGreatDoorMP22
import Derived.Test.YtccebdpjdpjgnaaGreatDoorMP24
set_option linter.unusedVariables false
set_option linter.unusedSimpArgs false
namespace Go.Proofs.YtccebdpjdpjgnaaGreatDoor.Q
open Go.Lib hiding bytesOf bytesOf_length
open Go Go.RowKit Sch Go.Proofs.YtccebdpjdpjgnaaGreatDoor.P Go.Proofs.YtccebdpjdpjgnaaGreatDoorW.PrintWords Go.Proofs.YtccebdpjdpjgnaaGreatDoorW.PrintLast Go.Proofs.YtccebdpjdpjgnaaGreatDoorW.PrintMore
set_option linter.unusedVariables false
set_option linter.unusedSimpArgs false
def isP (x : Int) : Bool := [2, 3, 5, 7, 11, 13, 17, 19, 23, 29, 31, 37, 41, 43, 47, 53, 59, 61, 67, 71, 73, 79, 83, 89, 97].contains x
theorem isP_range {x : Int} (h : isP x = true) : 2 ≤ x ∧ x ≤ 97 := by
 unfold isP at h
 simp only [List.contains_eq_mem, decide_eq_true_eq, List.mem_cons, List.not_mem_nil, or_false] at h
 omega
theorem isPrime_fin : ∀ n : Fin 98, 2 ≤ n.val → prime_IsPrime.f 30 ((n.val : Nat) : Int) = some (isP (n.val : Nat)) := by decide +kernel
theorem isPrime_ev (x : Int) : Ev (fun k => prime_IsPrime.f k x) (isP x) := by
 by_cases h : 2 ≤ x ∧ x ≤ 97
 ·obtain ⟨n, rfl⟩ := Int.eq_ofNat_of_zero_le (show 0 ≤ x by omega)
  exact Ev.of (fun k => prime_IsPrime.mono _ k) (isPrime_fin ⟨n, by omega⟩ (by show 2 ≤ n; omega))
 ·have hf : isP x = false := by
   rw [Bool.eq_false_iff]; intro e; exact h (isP_range e)
  rw [hf]
  unfold prime_IsPrime.f
  have hj : Ev (fun k => prime_IsPrime.j0 k x true) false := by
   refine Ev.succ ?_
   simp only [prime_IsPrime.j0]
   exact Ev.ite_pos (by simp) (Ev.val rfl)
  by_cases h2 : x < 2
  ·exact Ev.ite_pos h2 hj
  ·refine Ev.ite_neg h2 ?_
   rw [decide_eq_true (by omega)]
   exact hj
def goP (prev : Int) : List Int → Int
 | [] => 0
 | x :: l => if isP x = true then (if x ≤ prev then 6 else goP x l) else 25
def primeErr (p : List Int) : Int := if p.length = 0 then 13 else if p.length > 6 then 4 else goP 0 p
theorem primeCheck_ev (p : List Int) : Ev (fun k => prime_Check.f k p) (primeErr p) := by
 unfold prime_Check.f primeErr
 by_cases h0 : p.length = 0
 ·rw [if_pos h0]; exact Ev.ite_pos (by omega) (Ev.val rfl)
 ·rw [if_neg h0]
  refine Ev.ite_neg (by omega) ?_
  by_cases h6 : p.length > 6
  ·rw [if_pos h6]; exact Ev.ite_pos (by omega) (Ev.val rfl)
  ·rw [if_neg h6]
   refine Ev.ite_neg (by omega) ?_
   have : ∀ (d i : Nat), p.length = i + d → Ev (fun k => prime_Check.l0 k p p (p.length : Int) (i : Int)) (goP (if i = 0 then 0 else p.getD (i - 1) 0) (p.drop i)) := by
    intro d
    induction d with
    | zero =>
     intro i hi
     refine Ev.succ ?_
     simp only [prime_Check.l0]
     rw [List.drop_of_length_le (by omega)]
     exact Ev.ite_neg (by omega) (Ev.val rfl)
    | succ d ih =>
     intro i hi
     refine Ev.succ ?_
     simp only [prime_Check.l0]
     rw [rd_nat, drop_getD p i (by omega), goP]
     refine Ev.ite_pos (by omega) (Ev.ite_pos (by omega) (Ev.ite_pos (by omega) (Ev.bind (isPrime_ev _) ?_)))
     have hn := ih (i + 1) (by omega)
     rw [if_neg (by omega), Nat.add_sub_cancel] at hn
     have hi1 : ((i + 1 : Nat) : Int) = (i : Int) + 1 := by omega
     rw [hi1] at hn
     rw [w64 (x := (i : Int) + 1) (by omega) (by omega)]
     by_cases hp : isP (p.getD i 0) = true
     ·rw [if_pos hp]
      refine Ev.ite_pos hp ?_
      by_cases hi0 : i = 0
      ·subst hi0
       rw [if_pos rfl, if_neg (by have := isP_range hp; omega)]
       exact Ev.ite_neg (by omega) hn
      ·rw [if_neg hi0]
       refine Ev.ite_pos (by omega) ?_
       have e1 : (i : Int) - 1 = ((i - 1 : Nat) : Int) := by omega
       rw [e1, w64 (by omega) (by omega), rd_nat]
       refine Ev.ite_pos (by omega) (Ev.ite_pos (by omega) ?_)
       by_cases hle : p.getD i 0 ≤ p.getD (i - 1) 0
       ·rw [if_pos hle]; exact Ev.ite_pos hle (Ev.val rfl)
       ·rw [if_neg hle]; exact Ev.ite_neg hle hn
     ·rw [if_neg hp]
      exact Ev.ite_neg hp (Ev.val rfl)
   have h := this p.length 0 (by omega)
   simpa using h
def far (x : List Int) : Bool := x.any fun n => decide (n > 1000 ∨ n < -1000)
def chk (p x : List Int) : Int := if x.length = p.length then (if far x = true then 4 else 0) else 5
def chkL (p : List Int) : List (List Int) → Int
 | [] => 0
 | x :: l => if chk p x = 0 then chkL p l else chk p x
def chkE (p : List Int) (x : Int) : Int := if primeErr p = 0 then x else primeErr p
theorem far_cons (n : Int) (l : List Int) : far (n :: l) = (decide (n > 1000 ∨ n < -1000) || far l) := by simp [far]
theorem all_inner (p : List Int) (l : List (List Int)) (x : List Int) (hx : x.length ≤ 1000) (i : Nat) (hi : i ≤ 1000) (r : Int) (hr : Ev (fun k => monzo_CheckAll.l0 k p l (l.length : Int) ((i : Int) + 1)) r) :
  ∀ (d j : Nat), x.length = j + d → Ev (fun k => monzo_CheckAll.l1 k p l (l.length : Int) (i : Int) x (x.length : Int) (j : Int)) (if far (x.drop j) = true then 4 else r) := by
 intro d
 induction d with
 | zero =>
  intro j hj
  refine Ev.succ ?_
  simp only [monzo_CheckAll.l1]
  rw [List.drop_of_length_le (by omega), w64 (x := (i : Int) + 1) (by omega) (by omega)]
  exact Ev.ite_neg (by omega) hr
 | succ d ih =>
  intro j hj
  refine Ev.succ ?_
  simp only [monzo_CheckAll.l1]
  rw [rd_nat, drop_getD x j (by omega), far_cons, w64 (x := (j : Int) + 1) (by omega) (by omega)]
  refine Ev.ite_pos (by omega) (Ev.ite_pos (by omega) (Ev.ite_pos (by omega) ?_))
  by_cases h1 : x.getD j 0 > 1000
  ·refine Ev.ite_pos h1 (Ev.val ?_)
   rw [decide_eq_true (.inl h1)]; rfl
  ·refine Ev.ite_neg h1 ?_
   by_cases h2 : x.getD j 0 < -1000
   ·refine Ev.ite_pos h2 (Ev.val ?_)
    rw [decide_eq_true (.inr h2)]; rfl
   ·refine Ev.ite_neg h2 ?_
    rw [decide_eq_false (by omega), Bool.false_or]
    exact ih (j + 1) (by omega)
theorem rd_L2_nat (l : List (List Int)) (i : Nat) : rd_L2 l (i : Int) = l.getD i [] := by unfold rd_L2; simp
theorem all_loop (p : List Int) (l : List (List Int)) (hl : l.length ≤ 1000) (hx : ∀ x ∈ l, x.length ≤ 1000) : ∀ (d i : Nat), l.length = i + d → Ev (fun k => monzo_CheckAll.l0 k p l (l.length : Int) (i : Int)) (chkL p (l.drop i)) := by
 intro d
 induction d with
 | zero =>
  intro i hi
  refine Ev.succ ?_
  simp only [monzo_CheckAll.l0]
  rw [List.drop_of_length_le (by omega)]
  exact Ev.ite_neg (by omega) (Ev.val rfl)
 | succ d ih =>
  intro i hi
  refine Ev.succ ?_
  simp only [monzo_CheckAll.l0]
  have hlt : i < l.length := by omega
  have hxi : (l.getD i []).length ≤ 1000 := by
   rw [List.getD_eq_getElem?_getD, List.getElem?_eq_getElem hlt]
   exact hx _ (List.getElem_mem hlt)
  have hd : l.drop i = l.getD i [] :: l.drop (i + 1) := by
   rw [List.getD_eq_getElem?_getD, List.getElem?_eq_getElem hlt]
   exact List.drop_eq_getElem_cons hlt
  rw [rd_L2_nat, hd, chkL]
  generalize l.getD i [] = x at *
  refine Ev.ite_pos (by omega) (Ev.ite_pos (by omega) (Ev.ite_pos (by omega) ?_))
  unfold chk
  by_cases hxl : x.length = p.length
  ·rw [if_pos hxl]
   refine Ev.ite_pos (by omega) ?_
   have := all_inner p l x hxi i (by omega) _ (ih (i + 1) (by omega)) x.length 0 (by omega)
   rw [List.drop_zero] at this
   refine Ev.eq this ?_
   by_cases hf : far x = true
   ·simp [hf]
   ·simp [hf]
  ·rw [if_neg hxl]
   exact Ev.ite_neg (by omega) (Ev.val (by simp))
theorem checkAll_ev (p : List Int) (l : List (List Int)) (hl : l.length ≤ 1000) (hx : ∀ x ∈ l, x.length ≤ 1000) : Ev (fun k => monzo_CheckAll.f k p l) (chkE p (chkL p l)) := by
 unfold monzo_CheckAll.f chkE
 refine Ev.bind (primeCheck_ev p) ?_
 by_cases h : primeErr p = 0
 ·rw [if_pos h]
  refine Ev.ite_pos h (Ev.eq (all_loop p l hl hx l.length 0 (by omega)) (by rw [List.drop_zero]))
 ·rw [if_neg h]
  exact Ev.ite_neg h (Ev.val rfl)
theorem chkL_one (p x : List Int) : chkL p [x] = chk p x := by
 unfold chkL chkL
 split
 ·next h => exact h.symm
 ·rfl
theorem mcheck_ev (p x : List Int) (hx : x.length ≤ 1000) : Ev (fun k => monzo_Check.f k p x) (chkE p (chk p x)) := by
 unfold monzo_Check.f
 have := checkAll_ev p [x] (by simp) (fun y hy => by rw [List.mem_singleton] at hy; subst hy; exact hx)
 rw [chkL_one] at this
 exact Ev.bindr this rfl
theorem result_ev (p x : List Int) (hx : x.length ≤ 1000) (hp : primeErr p = 0) (hl : x.length = p.length) : Ev (fun k => monzo_result.f k p x) (if far x = true then ([], 4) else (x, 0)) := by
 unfold monzo_result.f
 have := checkAll_ev p [x] (by simp) (fun y hy => by rw [List.mem_singleton] at hy; subst hy; exact hx)
 rw [chkL_one] at this
 refine Ev.bind this ?_
 unfold chkE chk
 rw [if_pos hp, if_pos hl]
 by_cases h : far x = true
 ·rw [if_pos h, if_pos h]; exact Ev.ite_neg (by decide) (Ev.val rfl)
 ·rw [if_neg h, if_neg h]; exact Ev.ite_pos rfl (Ev.val rfl)
theorem same_ev (a b : List Int) (ha : a.length ≤ 1000) (hb : b.length ≤ 1000) : Ev (fun k => schismalaw12_Same.f k a b) (decide (a = b)) := by
 unfold schismalaw12_Same.f
 by_cases hl : a.length = b.length
 ·refine Ev.ite_pos (by omega) ?_
  have : ∀ (d i : Nat), a.length = i + d → Ev (fun k => schismalaw12_Same.l0 k a b (i : Int)) (decide (a.drop i = b.drop i)) := by
   intro d
   induction d with
   | zero =>
    intro i hi
    refine Ev.succ ?_
    simp only [schismalaw12_Same.l0]
    rw [List.drop_of_length_le (by omega), List.drop_of_length_le (by omega)]
    exact Ev.ite_neg (by omega) (Ev.val (by simp))
   | succ d ih =>
    intro i hi
    refine Ev.succ ?_
    simp only [schismalaw12_Same.l0]
    rw [rd_nat, rd_nat, drop_getD a i (by omega), drop_getD b i (by omega), w64 (by omega) (by omega)]
    refine Ev.ite_pos (by omega) (Ev.ite_pos (by omega) (Ev.ite_pos (by omega) ?_))
    by_cases he : a.getD i 0 = b.getD i 0
    ·refine Ev.ite_pos he (Ev.eq (ih (i + 1) (by omega)) ?_)
     rw [he, decide_eq_decide]
     simp
    ·refine Ev.ite_neg he (Ev.val ?_)
     rw [decide_eq_false]
     intro e; injection e with e1 e2; exact he e1
  exact Ev.eq (this a.length 0 (by omega)) (by rw [List.drop_zero, List.drop_zero])
 ·refine Ev.ite_neg (by omega) (Ev.val ?_)
  rw [decide_eq_false]
  intro e; exact hl (by rw [e])
def rowB (x : List Int) (ket : Bool) : ByteArray :=
 if ket = true then ((⟨#[91]⟩ : ByteArray) ++ ⟨(Lib.join (x.map itoa) [32]).toArray⟩) ++ (⟨#[62]⟩ : ByteArray) else ((⟨#[60]⟩ : ByteArray) ++ ⟨(Lib.join (x.map itoa) [32]).toArray⟩) ++ (⟨#[93]⟩ : ByteArray)
theorem itoa_len {n : Int} (h : -1000000000 ≤ n ∧ n ≤ 1000000000) : (itoa n).length ≤ 11 := by
 unfold itoa
 split
 ·rw [List.length_cons, decDigits_length]
  have : nDigits n.natAbs ≤ 10 := nd_le (by omega) (by decide)
  omega
 ·rw [decDigits_length]
  have : nDigits n.toNat ≤ 10 := nd_le (by omega) (by decide)
  omega
theorem joinTail_len : ∀ x : List Int, (∀ n ∈ x, -1000000000 ≤ n ∧ n ≤ 1000000000) → (Lib.joinTail [32] (x.map itoa)).length ≤ 12 * x.length
 | [], _ => by simp [Lib.joinTail]
 | n :: x, h => by
  have h1 := itoa_len (h n (by simp))
  have h2 := joinTail_len x (fun m hm => h m (by simp [hm]))
  unfold Lib.joinTail at *
  simp only [List.map_cons, List.flatten_cons, List.length_append, List.length_cons, List.length_nil] at *
  omega
theorem join_len : ∀ x : List Int, (∀ n ∈ x, -1000000000 ≤ n ∧ n ≤ 1000000000) → (Lib.join (x.map itoa) [32]).length ≤ 12 * x.length
 | [], _ => by simp [Lib.join_nil]
 | n :: x, h => by
  have h1 := itoa_len (h n (by simp))
  have h2 := joinTail_len x (fun m hm => h m (by simp [hm]))
  rw [List.map_cons, Lib.join_cons, List.length_append, List.length_cons]
  omega
theorem rowText_ev (x : List Int) (ket : Bool) (hl : x.length ≤ 64) (hx : ∀ n ∈ x, -1000000000 ≤ n ∧ n ≤ 1000000000) : Ev (fun k => row_Text.f k x ket) (rowB x ket, 0) := by
 unfold row_Text.f
 have hc : row_Check.f x = some 0 := by
  unfold row_Check.f
  rw [if_neg]
  rintro (h | h)
  ·omega
  ·rw [List.any_eq_true] at h
   obtain ⟨n, hn, h⟩ := h
   have := hx n hn
   simp only [Bool.or_eq_true, decide_eq_true_eq] at h
   omega
 refine Ev.bindc hc (Ev.ite_pos rfl ?_)
 have hj := join_len x hx
 have : ∀ (d i : Nat) (acc : List ByteArray), x.length = i + d → acc = (x.take i).map zs → Ev (fun k => row_Text.l0 k ket acc x (x.length : Int) (i : Int)) (rowB x ket, 0) := by
  intro d
  induction d with
  | zero =>
   intro i acc hi ha
   refine Ev.succ ?_
   simp only [row_Text.l0]
   refine Ev.ite_neg (by omega) (Ev.val ?_)
   rw [List.take_of_length_le (by omega)] at ha
   subst ha
   unfold strings_Join.f
   have e1 : (x.map zs).map (fun s => s.data.toList) = x.map itoa := by rw [List.map_map]; rfl
   have e2 : (⟨#[32]⟩ : ByteArray).data.toList = [32] := rfl
   have e3 : (⟨(Lib.join (x.map itoa) [32]).toArray⟩ : ByteArray).size = (Lib.join (x.map itoa) [32]).length := by simp [ByteArray.size]
   rw [e1, e2, List.length_map, if_pos ⟨by omega, by omega⟩]
   simp only [Option.bind_some, e3]
   unfold rowB
   cases ket
   ·rw [if_neg (by simp), if_pos (by omega), if_pos (by omega), if_neg (by simp)]
   ·rw [if_pos rfl, if_pos (by omega), if_pos (by omega), if_pos rfl]
  | succ d ih =>
   intro i acc hi ha
   refine Ev.succ ?_
   simp only [row_Text.l0]
   rw [rd_nat, w64 (by omega) (by omega)]
   have hlt : i < x.length := by omega
   have hn := hx (x.getD i 0) (by rw [List.getD_eq_getElem?_getD, List.getElem?_eq_getElem hlt]; exact List.getElem_mem hlt)
   refine Ev.ite_pos (by omega) (Ev.ite_pos (by omega) (Ev.ite_pos (by omega) (Ev.bindc (a := zs (x.getD i 0)) ?_ (Ev.ite_pos ?_ (ih (i + 1) _ (by omega) ?_)))))
   ·unfold strconv_Itoa.f
    rw [if_pos (by omega)]; rfl
   ·subst ha; simp; omega
   ·subst ha
    rw [take_snoc_getD x i hlt, List.map_append]; rfl
 exact this x.length 0 [] (by omega) rfl
theorem far_bound {x : List Int} (h : far x = false) : ∀ n ∈ x, -1000 ≤ n ∧ n ≤ 1000 := by
 intro n hn
 unfold far at h
 rw [List.any_eq_false] at h
 have := h n hn
 simp only [decide_eq_true_eq] at this
 omega
theorem brackets_ev (p x : List Int) (hp : primeErr p = 0) (hx : x.length = p.length) (hl : x.length ≤ 64) (hf : far x = false) : Ev (fun k => monzo_Brackets.f k p x) (rowB x true, 0) := by
 unfold monzo_Brackets.f
 refine Ev.bind (mcheck_ev p x (by omega)) ?_
 have e : chkE p (chk p x) = 0 := by unfold chkE chk; rw [if_pos hp, if_pos hx, hf]; rfl
 rw [e]
 refine Ev.ite_pos rfl (Ev.bindr (rowText_ev x true hl (fun n hn => ?_)) rfl)
 have := far_bound hf n hn
 omega
end Go.Proofs.YtccebdpjdpjgnaaGreatDoor.Q
