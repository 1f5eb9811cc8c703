/-
Plain laws: the greater one of two numbers, and Greater.
-/
import Derived.Test.YtccebdpjdpjgnaaGreatDoorBE38
import Derived.Test.YtccebdpjdpjgnaaGreatDoorBE39
set_option linter.unusedVariables false
set_option linter.unusedSimpArgs false
namespace Go.Proofs.YtccebdpjdpjgnaaGreatDoor.Q
open Go.Lib hiding bytesOf bytesOf_length
open Go Go.RowKit Sch Go.Proofs.YtccebdpjdpjgnaaGreatDoor.P Go.Proofs.YtccebdpjdpjgnaaGreatDoorW.PrintWords Go.Proofs.YtccebdpjdpjgnaaGreatDoorW.PrintLast Go.Proofs.YtccebdpjdpjgnaaGreatDoorW.PrintMore
set_option linter.unusedVariables false
set_option linter.unusedSimpArgs false
theorem greater_ns (a b : Nat) (ha : nDigits a ≤ 100000) (hb : nDigits b ≤ 100000) : monzo_greater.f (ns a) (ns b) = some (ns (max a b)) := by
 unfold monzo_greater.f
 rw [compare_ns a b ha hb, Option.bind_some]
 unfold cmpI
 by_cases h : (a : Int) < b
 ·rw [if_pos h, if_pos (by decide), Nat.max_eq_right (by omega)]
 ·rw [if_neg h, Nat.max_eq_left (by omega)]
  split <;> rw [if_neg (by decide)]
theorem Fit.greater {ps : List Nat} {xs : List Int} (h : Fit ps xs) : Ev (fun k => monzo_Greater.f k (il ps) xs) (if nDigits (max (numL ps xs) (denL ps xs)) ≤ 400 then (ns (max (numL ps xs) (denL ps xs)), 0) else (⟨#[]⟩, 4)) := by
 unfold monzo_Greater.f heightOf
 have := h.nd
 exact Ev.bind h.mcheck (Ev.ite_pos rfl (Ev.bind h.sides (Ev.bindc (greater_ns _ _ (by omega) (by omega)) (Ev.val (short_val _)))))
theorem nonempty_ns (a : Nat) : (ns a).toList ≠ [] := by
 intro h
 rw [toList_data] at h
 have h1 := ns_size a
 have h2 : (ns a).data.toList.length = (ns a).size := data_length _
 have h3 := nDigits_pos a
 rw [h] at h2
 simp at h2
 omega
theorem nonempty_ft (a b : Nat) : (ftB a b).toList ≠ [] := by
 unfold ftB
 split
 ·exact nonempty_ns a
 ·intro h
  apply nonempty_ns a
  rw [toList_data] at h ⊢
  simp at h
end Go.Proofs.YtccebdpjdpjgnaaGreatDoor.Q
