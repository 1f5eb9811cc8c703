/-
Plain law: MonzoHeights.
-/
import Derived.Test.YtccebdpjdpjgnaaGreatDoorBH41
import Derived.Test.YtccebdpjdpjgnaaGreatDoorBH43
import Derived.Test.YtccebdpjdpjgnaaGreatDoorBH45
set_option linter.unusedVariables false
set_option linter.unusedSimpArgs false
namespace Go.Proofs.YtccebdpjdpjgnaaGreatDoor.Q
open Go.Lib hiding bytesOf bytesOf_length
open Go Go.RowKit Sch Go.Proofs.YtccebdpjdpjgnaaGreatDoor.P Go.Proofs.YtccebdpjdpjgnaaGreatDoorW.PrintWords Go.Proofs.YtccebdpjdpjgnaaGreatDoorW.PrintLast Go.Proofs.YtccebdpjdpjgnaaGreatDoorW.PrintMore
set_option linter.unusedVariables false
set_option linter.unusedSimpArgs false
theorem ns2 : (⟨#[50]⟩ : ByteArray) = ns 2 := by unfold ns; rw [dec_small (by decide)]; rfl
theorem odd_loop : ∀ (n i : Nat), 1 ≤ n → nDigits n ≤ 1000 → i + expo 2 n < 4000 → Ev (fun k => schismalaw12_odd.l0 k (ns n) (i : Int)) (ns (rest 2 n)) := by
 intro n
 induction n using Nat.strongRecOn with
 | _ n ih =>
  intro i hn hd hc
  refine Ev.succ ?_
  simp only [schismalaw12_odd.l0]
  rw [ns2]
  refine Ev.ite_pos (by omega) (Ev.bind (wdivmod_ns n 2 (by omega) (by rw [nDigits_small (by decide)]; decide) (by decide)) ?_)
  dsimp only
  by_cases h : n % 2 = 0
  ·refine Ev.ite_pos (ns_eq0.2 h) (Ev.ite_pos rfl ?_)
   rw [expo_yes (by decide) hn h] at hc
   rw [rest_yes (by decide) hn h, w64 (by omega) (by omega)]
   have := ih (n / 2) (Nat.div_lt_self (by omega) (by decide)) (i + 1) (by omega) (Nat.le_trans (nd_mono (Nat.div_le_self _ _)) hd) (by omega)
   simpa using this
  ·rw [rest_no h]
   exact Ev.ite_neg (by rw [ns_eq0]; exact h) (Ev.val rfl)
theorem odd_ev (n : Nat) (hn : 1 ≤ n) (hd : nDigits n ≤ 900) : Ev (fun k => schismalaw12_odd.f k (ns n)) (ns (rest 2 n)) := by
 unfold schismalaw12_odd.f
 have := expo_nd (p := 2) (by decide) hn
 exact odd_loop n 0 hn (by omega) (by omega)
theorem most_ns (a b : Nat) (ha : nDigits a ≤ 100000) (hb : nDigits b ≤ 100000) : schismalaw12_most.f (ns a) (ns b) = some (ns (max a b)) := by
 unfold schismalaw12_most.f
 rw [wcompare_ns a b ha hb, Option.bind_some]
 unfold cmpI
 by_cases h : (a : Int) < b
 ·rw [if_pos h, if_pos (by decide), Nat.max_eq_right (by omega)]
 ·rw [if_neg h, Nat.max_eq_left (by omega)]
  split <;> rw [if_neg (by decide)]
theorem Fit.odd {ps : List Nat} {xs : List Int} (h : Fit ps xs) : Ev (fun k => monzo_Odd.f k (il ps) xs) (if nDigits (max (rest 2 (numL ps xs)) (rest 2 (denL ps xs))) ≤ 400 then (ns (max (rest 2 (numL ps xs)) (rest 2 (denL ps xs))), 0) else (⟨#[]⟩, 4)) := by
 unfold monzo_Odd.f heightOf
 have n := h.nd
 have hn := numL_pos ps xs h.apart
 have hd := denL_pos ps xs h.apart
 have l1 := nd_mono (rest_le (p := 2) (by decide) hn)
 have l2 := nd_mono (rest_le (p := 2) (by decide) hd)
 have e1 : Ev (fun k => monzo_exponent.f k (ns (numL ps xs)) 2) (ns (rest 2 (numL ps xs)), ((expo 2 (numL ps xs) : Nat) : Int)) := exponent_ev 2 _ (by decide) (by decide) hn (by omega)
 have e2 : Ev (fun k => monzo_exponent.f k (ns (denL ps xs)) 2) (ns (rest 2 (denL ps xs)), ((expo 2 (denL ps xs) : Nat) : Int)) := exponent_ev 2 _ (by decide) (by decide) hd (by omega)
 have eo : Ev (fun k => oddOf k (ns (numL ps xs)) (ns (denL ps xs))) (ns (max (rest 2 (numL ps xs)) (rest 2 (denL ps xs)))) := by
  unfold oddOf
  exact Ev.bind e1 (Ev.bind e2 (Ev.val (greater_ns _ _ (by omega) (by omega))))
 exact Ev.bind h.mcheck (Ev.ite_pos rfl (Ev.bind h.sides (Ev.bind eo (Ev.val (short_val _)))))
theorem Fit.super {ps : List Nat} {xs : List Int} (h : Fit ps xs) : Ev (fun k => monzo_Superparticular.f k (il ps) xs) ((ns (numL ps xs)).toList == (ns (denL ps xs + 1)).toList, 0) := by
 unfold monzo_Superparticular.f
 have n := h.nd
 rw [ns1]
 exact Ev.bind h.mcheck (Ev.ite_pos rfl (Ev.bind h.sides (Ev.bind (add_ev _ _ (by omega) (by rw [nDigits_small (by decide)]; decide)) (Ev.val rfl))))
theorem neg_sides (ps : List Nat) (xs : List Int) : numL ps (xs.map (-1 * ·)) = denL ps xs ∧ denL ps (xs.map (-1 * ·)) = numL ps xs := by
 have e : (xs.map fun x => -1 * x) = xs.map fun x => -x := by congr 1; funext x; omega
 rw [e]
 refine ⟨(denL_neg ps xs).symm, ?_⟩
 rw [denL_neg, List.map_map]
 congr 1
 conv => rhs; rw [← List.map_id xs]
 congr 1
 funext x
 simp
theorem heights_step {ps : List Nat} {xs zs : List Int} {n d : Nat} (fz : Fit ps zs) (h : (numL ps zs = n ∧ denL ps zs = d) ∨ (numL ps zs = d ∧ denL ps zs = n)) (hn : nDigits n ≤ 77) (hd : nDigits d ≤ 77) (pn : 1 ≤ n) (pd : 1 ≤ d) (L : List (List Int)) (hL : L.length = 2) (i : Nat) (hi : i < 2) (hz : rd_L2 L (i : Int) = zs) {r : Bool}
  (hk : Ev (fun k => schismalaw12_MonzoHeights.l0 k (il ps) xs (ns n) (ns d) 0 L 2 ((i : Int) + 1)) r) : Ev (fun k => schismalaw12_MonzoHeights.l0 k (il ps) xs (ns n) (ns d) 0 L 2 (i : Int)) r := by
 refine Ev.succ ?_
 simp only [schismalaw12_MonzoHeights.l0]
 rw [hz, hL, w64 (by omega) (by omega)]
 have l1 := nd_mono (rest_le (p := 2) (by decide) pn)
 have l2 := nd_mono (rest_le (p := 2) (by decide) pd)
 have pr := fz.product
 have gr := fz.greater
 have od := fz.odd
 have e1 : numL ps zs * denL ps zs = n * d := by
  rcases h with ⟨h1, h2⟩ | ⟨h1, h2⟩ <;> rw [h1, h2]
  exact Nat.mul_comm _ _
 have e2 : max (numL ps zs) (denL ps zs) = max n d := by
  rcases h with ⟨h1, h2⟩ | ⟨h1, h2⟩ <;> rw [h1, h2]
  exact Nat.max_comm _ _
 have e3 : max (rest 2 (numL ps zs)) (rest 2 (denL ps zs)) = max (rest 2 n) (rest 2 d) := by
  rcases h with ⟨h1, h2⟩ | ⟨h1, h2⟩ <;> rw [h1, h2]
  exact Nat.max_comm _ _
 have m1 := nd_mul n d
 have m2 : nDigits (max n d) ≤ 77 := by rcases Nat.le_total n d with h | h <;> simp [Nat.max_eq_left, Nat.max_eq_right, h] <;> omega
 have m3 : nDigits (max (rest 2 n) (rest 2 d)) ≤ 77 := by rcases Nat.le_total (rest 2 n) (rest 2 d) with h | h <;> simp [Nat.max_eq_left, Nat.max_eq_right, h] <;> omega
 rw [e1, if_pos (by omega)] at pr
 rw [e2, if_pos (by omega)] at gr
 rw [e3, if_pos (by omega)] at od
 refine Ev.ite_pos (by omega) (Ev.ite_pos (by omega) (Ev.ite_pos (by omega) (Ev.bind pr (Ev.bind gr (Ev.bind od ?_)))))
 exact Ev.ite_pos rfl (Ev.ite_pos rfl (Ev.ite_pos rfl (Ev.bind (wmul_ns _ _ (by omega) (by omega)) (Ev.ite_pos rfl (Ev.bindc (most_ns _ _ (by omega) (by omega)) (Ev.ite_pos rfl (Ev.bind (odd_ev _ pn (by omega)) (Ev.bind (odd_ev _ pd (by omega)) (Ev.bindc (most_ns _ _ (by omega) (by omega)) (Ev.ite_pos rfl hk))))))))))
theorem heights_ev (a0 a1 a2 a3 a4 : Int) (h0 : 0 ≤ a0) (h1 : a0 ≤ 255) : Ev (fun k => schismalaw12_MonzoHeights.f k a0 a1 a2 a3 a4) true := by
 obtain ⟨ps, xs, hok, hl, hx, _, hm⟩ := make_ev a0 a1 a2 a3 a4 h0 h1
 obtain ⟨f, n1, n2⟩ := plan_fit hok hl hx
 have fy : Fit ps (xs.map (-1 * ·)) := okL_fit hok (by rw [List.length_map, hl]) (fun x m => by
  obtain ⟨y, hy, rfl⟩ := List.mem_map.1 m
  have := hx y hy
  omega)
 obtain ⟨s1, s2⟩ := neg_sides ps xs
 have pn := numL_pos ps xs f.apart
 have pd := denL_pos ps xs f.apart
 unfold schismalaw12_MonzoHeights.f
 refine Ev.bind known_ev (Ev.ite_pos rfl (Ev.bind (Ev.congr hm (Ev.now _)) (Ev.bind f.value (Ev.bind f.neg (Ev.bindc rfl ?_)))))
 dsimp only
 refine heights_step f (.inl ⟨rfl, rfl⟩) n1 n2 pn pd _ rfl 0 (by decide) rfl ?_
 refine heights_step fy (.inr ⟨s1, s2⟩) n1 n2 pn pd _ rfl 1 (by decide) rfl ?_
 refine Ev.succ ?_
 simp only [schismalaw12_MonzoHeights.l0]
 rw [ns1]
 refine Ev.ite_neg (by decide) (Ev.bind f.super (Ev.ite_pos trivial (Ev.ite_pos rfl (Ev.bind (wadd_ns _ _ (by omega) (by rw [nDigits_small (by decide)]; decide)) (Ev.val ?_)))))
 simp
end Go.Proofs.YtccebdpjdpjgnaaGreatDoor.Q
