/-
Plain laws: sums of intervals, powers, signs.
-/
import Derived.Test.YtccebdpjdpjgnaaGreatDoorER36
import Derived.Test.YtccebdpjdpjgnaaGreatDoorER37
set_option linter.unusedVariables false
set_option linter.unusedSimpArgs false
namespace Go.Proofs.YtccebdpjdpjgnaaGreatDoor.Q
open Go.Lib hiding bytesOf bytesOf_length
open Go Go.RowKit Sch Go.Proofs.YtccebdpjdpjgnaaGreatDoor.P Go.Proofs.YtccebdpjdpjgnaaGreatDoorW.PrintWords Go.Proofs.YtccebdpjdpjgnaaGreatDoorW.PrintLast Go.Proofs.YtccebdpjdpjgnaaGreatDoorW.PrintMore
set_option linter.unusedVariables false
set_option linter.unusedSimpArgs false
def comb (s : Int) (xs ys : List Int) : List Int := List.zipWith (fun a b => a + s * b) xs ys
def farR (zs : List Int) : List Int × Int := if far zs = true then ([], 4) else (zs, 0)
theorem comb_mem (s : Int) : ∀ (xs ys : List Int), ∀ z ∈ comb s xs ys, ∃ x ∈ xs, ∃ y ∈ ys, z = x + s * y
 | [], _, z, h => by simp [comb] at h
 | _ :: _, [], z, h => by simp [comb] at h
 | x :: xs, y :: ys, z, h => by
  simp only [comb, List.zipWith_cons_cons, List.mem_cons] at h
  rcases h with rfl | h
  ·exact ⟨x, by simp, y, by simp, rfl⟩
  ·obtain ⟨a, ha, b, hb, e⟩ := comb_mem s xs ys z h
   exact ⟨a, by simp [ha], b, by simp [hb], e⟩
def Small (b : Int) (xs : List Int) : Prop := ∀ x ∈ xs, -b ≤ x ∧ x ≤ b
theorem Small.comb {a b s : Int} {xs ys : List Int} (hs : s = 1 ∨ s = -1) (hx : Small a xs) (hy : Small b ys) : Small (a + b) (comb s xs ys) := by
 intro z hz
 obtain ⟨x, h1, y, h2, rfl⟩ := comb_mem s xs ys z hz
 have := hx x h1
 have := hy y h2
 rcases hs with rfl | rfl <;> omega
theorem Small.notfar {a : Int} {xs : List Int} (hx : Small a xs) (ha : a ≤ 1000) : far xs = false := by
 unfold far
 rw [List.any_eq_false]
 intro n hn
 have := hx n hn
 simp only [decide_eq_true_eq]
 omega
theorem Small.farR {a : Int} {xs : List Int} (hx : Small a xs) (ha : a ≤ 1000) : farR xs = (xs, 0) := by
 unfold Q.farR
 rw [hx.notfar ha]; rfl
theorem sum_loop (ps : List Nat) (xs ys : List Int) (s : Int) (hs : s = 1 ∨ s = -1) (hl : xs.length = ps.length) (hy : ys.length = ps.length) (h8 : ps.length ≤ 8) (hpe : primeErr (il ps) = 0)
  (nx : ∀ x ∈ xs, -1000 ≤ x ∧ x ≤ 1000) (ny : ∀ x ∈ ys, -1000 ≤ x ∧ x ≤ 1000) : ∀ (c i : Nat) (acc : List Int), xs.length = i + c → acc.length = i →
  Ev (fun k => monzo_sum.l0 k (il ps) xs ys s acc (xs.length : Int) (i : Int)) (farR (acc ++ comb s (xs.drop i) (ys.drop i))) := by
 intro c
 induction c with
 | zero =>
  intro i acc hi ha
  refine Ev.succ ?_
  simp only [monzo_sum.l0]
  rw [List.drop_of_length_le (l := xs) (by omega)]
  simp only [comb, List.zipWith_nil_left, List.append_nil]
  exact Ev.ite_neg (by omega) (Ev.bindr (result_ev (il ps) acc (by omega) hpe (by rw [il_length]; omega)) rfl)
 | succ c ih =>
  intro i acc hi ha
  have hlt : i < xs.length := by omega
  have hlt2 : i < ys.length := by omega
  have hx := nx _ (getDI_mem xs i hlt)
  have hy1 := ny _ (getDI_mem ys i hlt2)
  refine Ev.succ ?_
  simp only [monzo_sum.l0]
  rw [rd_nat, rd_nat, drop_getD xs i hlt, drop_getD ys i hlt2]
  have e : comb s (xs.getD i 0 :: xs.drop (i + 1)) (ys.getD i 0 :: ys.drop (i + 1)) = (xs.getD i 0 + s * ys.getD i 0) :: comb s (xs.drop (i + 1)) (ys.drop (i + 1)) := rfl
  rw [e]
  have hb : -1000 ≤ s * ys.getD i 0 ∧ s * ys.getD i 0 ≤ 1000 := by rcases hs with rfl | rfl <;> omega
  generalize s * ys.getD i 0 = y at *
  generalize xs.getD i 0 = x at *
  rw [w64 (x := y) (by omega) (by omega), w64 (x := x + y) (by omega) (by omega), w64 (x := (i : Int) + 1) (by omega) (by omega)]
  refine Ev.ite_pos (by omega) (Ev.ite_pos (by omega) (Ev.ite_pos (by omega) (Ev.ite_pos (by omega) (Ev.ite_pos (by omega) ?_))))
  have := ih (i + 1) (acc ++ [x + y]) (by omega) (by simp; omega)
  simpa using this
theorem Fit.all2 {ps : List Nat} {xs ys : List Int} (h : Fit ps xs) (g : Fit ps ys) : Ev (fun k => monzo_CheckAll.f k (il ps) ([xs, ys] : List (List Int))) 0 := by
 have := checkAll_ev (il ps) [xs, ys] (by simp) (fun x hx => by
  have h1 := h.len; have h2 := g.len; have h3 := h.few
  simp only [List.mem_cons, List.not_mem_nil, or_false] at hx
  rcases hx with rfl | rfl <;> omega)
 refine Ev.eq this ?_
 unfold Q.chkE
 rw [if_pos h.err]
 simp [chkL, h.chk, g.chk]
theorem Fit.sum {ps : List Nat} {xs ys : List Int} (h : Fit ps xs) (g : Fit ps ys) (s : Int) (hs : s = 1 ∨ s = -1) : Ev (fun k => monzo_sum.f k (il ps) xs ys s) (farR (comb s xs ys)) := by
 unfold monzo_sum.f
 refine Ev.bind (h.all2 g) (Ev.ite_pos rfl ?_)
 have := sum_loop ps xs ys s hs h.len g.len h.few h.err h.near g.near xs.length 0 [] (by omega) rfl
 rw [List.drop_zero, List.drop_zero, List.nil_append] at this
 exact this
theorem Fit.add {ps : List Nat} {xs ys : List Int} (h : Fit ps xs) (g : Fit ps ys) : Ev (fun k => monzo_Add.f k (il ps) xs ys) (farR (comb 1 xs ys)) := by
 unfold monzo_Add.f
 exact Ev.bindr (h.sum g 1 (.inl rfl)) rfl
end Go.Proofs.YtccebdpjdpjgnaaGreatDoor.Q
