/-
Plain law: MonzoErrors.
-/
import Derived.Test.YtccebdpjdpjgnaaGreatDoorER38
import Derived.Test.YtccebdpjdpjgnaaGreatDoorER40
set_option linter.unusedVariables false
set_option linter.unusedSimpArgs false
set_option linter.unusedSectionVars false
namespace Go.Proofs.YtccebdpjdpjgnaaGreatDoor.Q
open Go.Lib hiding bytesOf bytesOf_length
open Go Go.RowKit Sch Go.Proofs.YtccebdpjdpjgnaaGreatDoor.P Go.Proofs.YtccebdpjdpjgnaaGreatDoorW.PrintWords Go.Proofs.YtccebdpjdpjgnaaGreatDoorW.PrintLast Go.Proofs.YtccebdpjdpjgnaaGreatDoorW.PrintMore
set_option linter.unusedVariables false
set_option linter.unusedSimpArgs false
section
variable {p x y : List Int} (hx : x.length ≤ 1000) (hy : y.length ≤ 1000)
include hx
theorem err_fraction (h : chkE p (chk p x) ≠ 0) : Ev (fun k => monzo_Fraction.f k p x) (⟨#[]⟩, ⟨#[]⟩, chkE p (chk p x)) := by
 unfold monzo_Fraction.f; exact Ev.bind (mcheck_ev p x hx) (Ev.ite_neg h (Ev.val rfl))
theorem err_text (h : chkE p (chk p x) ≠ 0) : Ev (fun k => monzo_Text.f k p x) (⟨#[]⟩, chkE p (chk p x)) := by
 unfold monzo_Text.f; exact Ev.bind (err_fraction hx h) (Ev.ite_neg h (Ev.val rfl))
theorem err_power (m : Int) (h : chkE p (chk p x) ≠ 0) : Ev (fun k => monzo_Power.f k p x m) ([], chkE p (chk p x)) := by
 unfold monzo_Power.f; exact Ev.bind (mcheck_ev p x hx) (Ev.ite_neg h (Ev.val rfl))
theorem err_neg (h : chkE p (chk p x) ≠ 0) : Ev (fun k => monzo_Neg.f k p x) ([], chkE p (chk p x)) := by
 unfold monzo_Neg.f; exact Ev.bindr (err_power hx (-1) h) rfl
theorem err_sign (h : chkE p (chk p x) ≠ 0) : Ev (fun k => monzo_Sign.f k p x) (0, chkE p (chk p x)) := by
 unfold monzo_Sign.f; exact Ev.bind (mcheck_ev p x hx) (Ev.ite_neg h (Ev.val rfl))
theorem err_height (F : Nat → ByteArray → ByteArray → Option ByteArray) (h : chkE p (chk p x) ≠ 0) : Ev (fun k => heightOf F k p x) (⟨#[]⟩, chkE p (chk p x)) := by
 unfold heightOf; exact Ev.bind (mcheck_ev p x hx) (Ev.ite_neg h (Ev.val rfl))
theorem err_super (h : chkE p (chk p x) ≠ 0) : Ev (fun k => monzo_Superparticular.f k p x) (false, chkE p (chk p x)) := by
 unfold monzo_Superparticular.f; exact Ev.bind (mcheck_ev p x hx) (Ev.ite_neg h (Ev.val rfl))
include hy
theorem err_all : Ev (fun k => monzo_CheckAll.f k p ([x, y] : List (List Int))) (chkE p (chkL p [x, y])) := checkAll_ev p [x, y] (by simp) (by
 intro z hz
 simp only [List.mem_cons, List.not_mem_nil, or_false] at hz
 rcases hz with rfl | rfl <;> assumption)
theorem err_sum (s : Int) (h : chkE p (chkL p [x, y]) ≠ 0) : Ev (fun k => monzo_sum.f k p x y s) ([], chkE p (chkL p [x, y])) := by
 unfold monzo_sum.f; exact Ev.bind (err_all hx hy) (Ev.ite_neg h (Ev.val rfl))
theorem err_add (h : chkE p (chkL p [x, y]) ≠ 0) : Ev (fun k => monzo_Add.f k p x y) ([], chkE p (chkL p [x, y])) := by
 unfold monzo_Add.f; exact Ev.bindr (err_sum hx hy 1 h) rfl
theorem err_sub (h : chkE p (chkL p [x, y]) ≠ 0) : Ev (fun k => monzo_Sub.f k p x y) ([], chkE p (chkL p [x, y])) := by
 unfold monzo_Sub.f; exact Ev.bindr (err_sum hx hy (-1) h) rfl
theorem err_compare (h : chkE p (chkL p [x, y]) ≠ 0) : Ev (fun k => monzo_Compare.f k p x y) (0, chkE p (chkL p [x, y])) := by
 unfold monzo_Compare.f; exact Ev.bind (err_all hx hy) (Ev.ite_neg h (Ev.val rfl))
end
theorem empty_list : (⟨#[]⟩ : ByteArray).toList = [] := by rw [toList_data]
theorem err_j2 {p x : List Int} (hx : x.length ≤ 1000) (h : chkE p (chk p x) ≠ 0) : Ev (fun k => schismalaw12_MonzoErrors.j2 k p x (chkE p (chk p x)) false) true := by
 refine Ev.succ ?_
 simp only [schismalaw12_MonzoErrors.j2]
 refine Ev.ite_neg (by simp) (Ev.ite_neg h ?_)
 refine Ev.bind (err_fraction hx h) (Ev.bind (err_text hx h) (Ev.bind (err_neg hx h) (Ev.bind (err_power hx 2 h) (Ev.bind (err_sign hx h) (Ev.bind (err_height hx _ h) (Ev.bind (err_height hx _ h) (Ev.bind (err_height hx _ h) (Ev.bind (err_super hx h) ?_))))))))
 dsimp only
 rw [empty_list]
 refine Ev.ite_pos (by simp) (Ev.ite_pos rfl (Ev.ite_pos rfl (Ev.ite_pos rfl (Ev.ite_pos (by simp only [List.length_nil]; exact w64 (by decide) (by decide)) (Ev.ite_pos rfl (Ev.ite_pos rfl (Ev.ite_pos rfl (Ev.ite_pos rfl (Ev.ite_pos rfl (Ev.ite_pos rfl (Ev.ite_pos rfl (Ev.ite_pos rfl (Ev.ite_pos rfl (Ev.ite_pos rfl (Ev.ite_neg (by simp) (Ev.val ?_))))))))))))))))
 simp
theorem errors_ev (p x y : List Int) : Ev (fun k => schismalaw12_MonzoErrors.f k p x y) true := by
 unfold schismalaw12_MonzoErrors.f
 refine Ev.bind known_ev (Ev.ite_pos rfl (Ev.bindc (few_val p x) ?_))
 have hout : Ev (fun k => schismalaw12_MonzoErrors.j0 k p x y true) true := by
  refine Ev.succ ?_
  simp only [schismalaw12_MonzoErrors.j0]
  exact Ev.ite_pos (by simp) (Ev.bindr known_ev rfl)
 by_cases h1 : p.length ≤ 8 ∧ x.length ≤ 8
 ·rw [decide_eq_true h1]
  refine Ev.ite_pos rfl ?_
  by_cases h2 : (y.length : Int) > 8
  ·rw [decide_eq_true h2]; exact hout
  ·rw [decide_eq_false h2]
   have hx : x.length ≤ 1000 := by omega
   have hy : y.length ≤ 1000 := by omega
   have hj1 : Ev (fun k => schismalaw12_MonzoErrors.j1 k p x y (chkE p (chk p x)) (chkE p (chkL p [x, y]))) true := by
    refine Ev.succ ?_
    simp only [schismalaw12_MonzoErrors.j1]
    by_cases h : chkE p (chkL p [x, y]) = 0
    ·exact Ev.ite_pos h (Ev.val rfl)
    ·refine Ev.ite_neg h (Ev.bind (err_add hx hy h) (Ev.bind (err_sub hx hy h) (Ev.bind (err_compare hx hy h) ?_)))
     refine Ev.ite_pos (by simp only [List.length_nil]; exact w64 (by decide) (by decide)) (Ev.ite_pos rfl (Ev.ite_pos rfl (Ev.ite_pos rfl ?_)))
     rw [bne_self_eq_false]
     by_cases h1 : chkE p (chk p x) = 0
     ·refine Ev.succ ?_
      simp only [schismalaw12_MonzoErrors.j2]
      exact Ev.ite_neg (by simp) (Ev.ite_pos h1 (Ev.val rfl))
     ·exact err_j2 hx h1
   refine Ev.succ ?_
   simp only [schismalaw12_MonzoErrors.j0]
   refine Ev.ite_neg (by simp) (Ev.bind (check_ev p x (by omega) hx) (Ev.bind (check_ev p x (by omega) hx) ?_))
   by_cases h : chkE p (chk p x) = 0
   ·refine Ev.ite_pos h (Ev.bind (check_ev p y (by omega) hy) ?_)
    have e : chkE p (chk p y) = chkE p (chkL p [x, y]) := by
     have hp : primeErr p = 0 := by unfold chkE at h; split at h <;> assumption
     have hc : chk p x = 0 := by unfold chkE at h; rw [if_pos hp] at h; exact h
     unfold chkE
     rw [if_pos hp, if_pos hp, chkL, if_pos hc, chkL_one]
    rw [e]; exact hj1
   ·have e : chkE p (chk p x) = chkE p (chkL p [x, y]) := by
     unfold chkE at h ⊢
     by_cases hp : primeErr p = 0
     ·rw [if_pos hp] at h ⊢
      rw [if_pos hp, chkL, if_neg h]
     ·rw [if_neg hp, if_neg hp]
    refine Ev.ite_neg h ?_
    have := hj1
    rw [← e] at this
    exact this
 ·rw [decide_eq_false h1]
  exact Ev.ite_neg (by simp) hout
end Go.Proofs.YtccebdpjdpjgnaaGreatDoor.Q
