/-
parts of the walks and of the plain laws: QEmbeds Door3
-/
import Derived.Test.YtccebdpjdpjgnaaGreatDoorPE39
import Derived.Test.YtccebdpjdpjgnaaGreatDoorPE42
import Derived.Test.YtccebdpjdpjgnaaGreatDoorPE06
set_option linter.unusedVariables false
set_option linter.unusedSimpArgs false
section
namespace Go.Proofs.YtccebdpjdpjgnaaGreatDoor.Q
open Go.Lib hiding bytesOf bytesOf_length
open Go Go.RowKit Sch Go.Proofs.YtccebdpjdpjgnaaGreatDoor.P Go.Proofs.YtccebdpjdpjgnaaGreatDoorW.PrintWords Go.Proofs.YtccebdpjdpjgnaaGreatDoorW.PrintLast Go.Proofs.YtccebdpjdpjgnaaGreatDoorW.PrintMore
theorem index_loop (q : List Int) (a : Int) (hq : q.length ≤ 1000) : ∀ (d i : Nat), q.length = i + d → (∀ j, j < i → q.getD j 0 ≠ a) →
  (∃ j : Nat, j < q.length ∧ q.getD j 0 = a ∧ Ev (fun k => api_Primes_int_70.l0 k q a (q.length : Int) (i : Int)) (j : Int)) ∨ ((∀ j, j < q.length → q.getD j 0 ≠ a) ∧ Ev (fun k => api_Primes_int_70.l0 k q a (q.length : Int) (i : Int)) (-1)) := by
 intro d
 induction d with
 | zero =>
  intro i hi hn
  refine .inr ⟨fun j hj => hn j (by omega), Ev.succ ?_⟩
  simp only [api_Primes_int_70.l0]
  exact Ev.ite_neg (by omega) (Ev.val rfl)
 | succ d ih =>
  intro i hi hn
  by_cases h : a = q.getD i 0
  ·refine .inl ⟨i, by omega, h.symm, Ev.succ ?_⟩
   simp only [api_Primes_int_70.l0]
   rw [rd_nat]
   exact Ev.ite_pos (by omega) (Ev.ite_pos (by omega) (Ev.ite_pos (by omega) (Ev.ite_pos h (Ev.val rfl))))
  ·have hgo : ∀ r : Int, Ev (fun k => api_Primes_int_70.l0 k q a (q.length : Int) ((i + 1 : Nat) : Int)) r → Ev (fun k => api_Primes_int_70.l0 k q a (q.length : Int) (i : Int)) r := fun r hr => by
    refine Ev.succ ?_
    simp only [api_Primes_int_70.l0]
    rw [rd_nat, w64 (by omega) (by omega)]
    exact Ev.ite_pos (by omega) (Ev.ite_pos (by omega) (Ev.ite_pos (by omega) (Ev.ite_neg h hr)))
   rcases ih (i + 1) (by omega) (fun j hj => by
    by_cases hji : j = i
    ·subst hji; exact fun e => h e.symm
    ·exact hn j (by omega)) with ⟨j, h1, h2, h3⟩ | ⟨h1, h3⟩
   ·exact .inl ⟨j, h1, h2, hgo _ h3⟩
   ·exact .inr ⟨h1, hgo _ h3⟩
theorem mem_getD {q : List Int} {a : Int} : a ∈ q ↔ ∃ j, j < q.length ∧ q.getD j 0 = a := by
 rw [List.mem_iff_getElem]
 constructor
 ·rintro ⟨j, hj, e⟩
  exact ⟨j, hj, by rw [List.getD_eq_getElem?_getD, List.getElem?_eq_getElem hj]; exact e⟩
 ·rintro ⟨j, hj, e⟩
  exact ⟨j, hj, by rw [List.getD_eq_getElem?_getD, List.getElem?_eq_getElem hj] at e; exact e⟩
theorem index_ev (q : List Int) (a : Int) (hq : q.length ≤ 1000) :
  (a ∈ q ∧ ∃ j : Nat, j < q.length ∧ q.getD j 0 = a ∧ Ev (fun k => api_Primes_int_70.f k q a) (j : Int)) ∨ (a ∉ q ∧ Ev (fun k => api_Primes_int_70.f k q a) (-1)) := by
 unfold api_Primes_int_70.f
 rcases index_loop q a hq q.length 0 (by omega) (fun j hj => by omega) with ⟨j, h1, h2, h3⟩ | ⟨h1, h3⟩
 ·exact .inl ⟨mem_getD.2 ⟨j, h1, h2⟩, j, h1, h2, h3⟩
 ·refine .inr ⟨fun h => ?_, h3⟩
  obtain ⟨j, hj, e⟩ := mem_getD.1 h
  exact h1 j hj e
def embL (p q : List Int) (F : Int → Int) : List Int := q.map fun n => if n ∈ p then F n else 0
def lostL (p q : List Int) (F : Int → Int) : Bool := p.any fun a => decide (a ∉ q) && (F a != 0)
theorem embL_length (p q : List Int) (F : Int → Int) : (embL p q F).length = q.length := by simp [embL]
theorem embL_nil (q : List Int) (F : Int → Int) : embL [] q F = List.replicate q.length 0 := by
 unfold embL
 apply List.ext_getElem
 ·simp
 ·intro i h1 h2; simp
theorem embL_get (p q : List Int) (F : Int → Int) (i : Nat) (h : i < (embL p q F).length) (h' : i < q.length) : (embL p q F)[i] = if q[i] ∈ p then F q[i] else 0 := by simp [embL]
theorem embL_hit {p q : List Int} {F : Int → Int} {a : Int} {j : Nat} (hq : q.Nodup) (hj : j < q.length) (h : q.getD j 0 = a) : (embL p q F).set j (F a) = embL (p ++ [a]) q F := by
 rw [List.getD_eq_getElem?_getD, List.getElem?_eq_getElem hj, Option.getD_some] at h
 subst h
 apply List.ext_getElem
 ·simp [embL]
 ·intro i h1 h2
  have hi : i < q.length := by rw [List.length_set, embL_length] at h1; exact h1
  rw [List.getElem_set, embL_get _ _ _ _ _ hi, embL_get _ _ _ _ _ hi]
  by_cases e : j = i
  ·subst e
   rw [if_pos rfl, if_pos (by simp)]
  ·rw [if_neg e]
   have hne : q[i] ≠ q[j] := fun h => e ((List.getElem_inj hq).1 h).symm
   by_cases hm : q[i] ∈ p
   ·rw [if_pos hm, if_pos (by simp [hm])]
   ·rw [if_neg hm, if_neg (by simp [hm, hne])]
theorem embL_miss {p q : List Int} {F : Int → Int} {a : Int} (h : a ∉ q) : embL (p ++ [a]) q F = embL p q F := by
 unfold embL
 apply List.map_congr_left
 intro n hn
 have hne : n ≠ a := fun e => h (e ▸ hn)
 by_cases hm : n ∈ p
 ·rw [if_pos hm, if_pos (by simp [hm])]
 ·rw [if_neg hm, if_neg (by simp [hm, hne])]
theorem lostL_hit {p q : List Int} {F : Int → Int} {a : Int} (h : a ∈ q) : lostL (p ++ [a]) q F = lostL p q F := by
 unfold lostL
 rw [List.any_append]
 simp [h]
theorem lostL_miss {p q : List Int} {F : Int → Int} {a : Int} (h : a ∉ q) : lostL (p ++ [a]) q F = (lostL p q F || (F a != 0)) := by
 unfold lostL
 rw [List.any_append]
 simp [h]
theorem getD_mapF {p : List Int} {F : Int → Int} {i : Nat} (h : i < p.length) : (p.map F).getD i 0 = F (p.getD i 0) := by
 rw [List.getD_eq_getElem?_getD, List.getD_eq_getElem?_getD, List.getElem?_map, List.getElem?_eq_getElem h]; rfl
theorem take_snoc {p : List Int} {i : Nat} (h : i < p.length) : p.take (i + 1) = p.take i ++ [p.getD i 0] := take_snoc_getD p i h
theorem move_loop (p q : List Int) (F : Int → Int) (hq : q.Nodup) (hpl : p.length ≤ 100) (hql : q.length ≤ 100) : ∀ (d i : Nat) (left : Bool), p.length = i + d → left = lostL (p.take i) q F →
  Ev (fun k => prime_move.l0 k p q (embL (p.take i) q F) left (p.map F) (p.length : Int) (i : Int)) (embL p q F, lostL p q F) := by
 intro d
 induction d with
 | zero =>
  intro i left hi hl
  refine Ev.succ ?_
  simp only [prime_move.l0]
  rw [List.take_of_length_le (by omega)] at hl ⊢
  subst hl
  exact Ev.ite_neg (by omega) (Ev.val rfl)
 | succ d ih =>
  intro i left hi hl
  have hlt : i < p.length := by omega
  refine Ev.succ ?_
  simp only [prime_move.l0, List.length_map]
  rw [rd_nat, rd_nat, getD_mapF hlt, w64 (x := (i : Int) + 1) (by omega) (by omega)]
  have hn := ih (i + 1)
  rw [take_snoc hlt] at hn
  generalize p.getD i 0 = a at *
  refine Ev.ite_pos (by omega) (Ev.ite_pos (by omega) (Ev.ite_pos (by omega) (Ev.ite_pos (by omega) ?_)))
  rcases index_ev q a (by omega) with ⟨hm, j, hj, hja, hev⟩ | ⟨hm, hev⟩
  ·have hI : Ev (fun k => prime_Index.f k q a) ((j : Int), true) := by
    unfold prime_Index.f
    refine Ev.bindr hev ?_
    rw [show mx (j : Int) 0 = j by unfold mx; split <;> omega, decide_eq_true (by omega)]
   refine Ev.bind hI (Ev.ite_pos rfl (Ev.ite_pos (by omega) (Ev.ite_pos (by rw [embL_length]; omega) ?_)))
   rw [Int.toNat_natCast, embL_hit hq hj hja]
   exact hn left (by omega) (by rw [lostL_hit hm]; exact hl)
  ·have hI : Ev (fun k => prime_Index.f k q a) (0, false) := by
    unfold prime_Index.f
    exact Ev.bindr hev (by rfl)
   refine Ev.bind hI (Ev.ite_neg (by simp) ?_)
   rw [embL_miss hm] at hn
   by_cases h : left = true
   ·exact Ev.ite_pos h (hn true (by omega) (by rw [lostL_miss hm, ← hl, h]; rfl))
   ·refine Ev.ite_neg h (hn _ (by omega) ?_)
    rw [lostL_miss hm, ← hl, Bool.eq_false_iff.2 h, Bool.false_or]
theorem move_ev (p q : List Int) (F : Int → Int) (hq : q.Nodup) (hpl : p.length ≤ 100) (hql : q.length ≤ 100) : Ev (fun k => prime_move.f k p q (p.map F)) (embL p q F, lostL p q F) := by
 unfold prime_move.f
 refine Ev.ite_pos (by omega) (Ev.ite_pos (by omega) ?_)
 have := move_loop p q F hq hpl hql p.length 0 false (by omega) rfl
 rw [List.take_zero, embL_nil] at this
 rw [List.length_map, Int.toNat_natCast]
 exact this
theorem two_ev {ps qs : List Nat} (hp : Lst ps) (hq : Lst qs) : Ev (fun k => prime_two.f k (il ps) (il qs)) 0 := by
 unfold prime_two.f
 refine Ev.bind (primeCheck_ev _) (Ev.ite_pos hp.err (Ev.bindr (primeCheck_ev _) ?_))
 rw [hq.err]
theorem embed_bad {ps qs : List Nat} (hp : Lst ps) (hq : Lst qs) {x : List Int} (h : chk (il ps) x ≠ 0) : Ev (fun k => prime_Embed.f k (il ps) (il qs) x) ([], chk (il ps) x) := by
 unfold prime_Embed.f
 exact Ev.bind (two_ev hp hq) (Ev.ite_pos rfl (Ev.bindc (fits_val _ _) (Ev.ite_neg h (Ev.val rfl))))
theorem restrict_bad {ps qs : List Nat} (hp : Lst ps) (hq : Lst qs) {x : List Int} (h : chk (il ps) x ≠ 0) : Ev (fun k => prime_Restrict.f k (il ps) (il qs) x) ([], chk (il ps) x) := by
 unfold prime_Restrict.f
 exact Ev.bind (two_ev hp hq) (Ev.ite_pos rfl (Ev.bindc (fits_val _ _) (Ev.ite_neg h (Ev.val rfl))))
theorem embed_ev {ps qs : List Nat} (hp : Lst ps) (hq : Lst qs) (F : Int → Int) (h : chk (il ps) ((il ps).map F) = 0) : Ev (fun k => prime_Embed.f k (il ps) (il qs) ((il ps).map F)) (if lostL (il ps) (il qs) F = true then ([], 25) else (embL (il ps) (il qs) F, 0)) := by
 unfold prime_Embed.f
 have h1 := hp.few
 have h2 := hq.few
 refine Ev.bind (two_ev hp hq) (Ev.ite_pos rfl (Ev.bindc (fits_val _ _) (Ev.ite_pos h (Ev.bind (move_ev _ _ F hq.nodup (by rw [il_length]; omega) (by rw [il_length]; omega)) ?_))))
 by_cases hl : lostL (il ps) (il qs) F = true
 ·exact Ev.eq (Ev.ite_pos hl (Ev.val rfl)) (if_pos hl).symm
 ·exact Ev.eq (Ev.ite_neg hl (Ev.val rfl)) (if_neg hl).symm
theorem restrict_ev {ps qs : List Nat} (hp : Lst ps) (hq : Lst qs) (F : Int → Int) (h : chk (il ps) ((il ps).map F) = 0) : Ev (fun k => prime_Restrict.f k (il ps) (il qs) ((il ps).map F)) (embL (il ps) (il qs) F, 0) := by
 unfold prime_Restrict.f
 have h1 := hp.few
 have h2 := hq.few
 exact Ev.bind (two_ev hp hq) (Ev.ite_pos rfl (Ev.bindc (fits_val _ _) (Ev.ite_pos h (Ev.bindr (move_ev _ _ F hq.nodup (by rw [il_length]; omega) (by rw [il_length]; omega)) rfl))))
theorem as_map : ∀ (p x : List Int), p.Nodup → x.length = p.length → ∃ F : Int → Int, x = p.map F
 | [], x, _, h => ⟨fun _ => 0, by rw [List.length_eq_zero_iff.1 h]; rfl⟩
 | a :: p, [], _, h => by simp at h
 | a :: p, b :: x, hn, h => by
  rw [List.nodup_cons] at hn
  obtain ⟨F, hF⟩ := as_map p x hn.2 (by simpa using h)
  refine ⟨fun n => if n = a then b else F n, ?_⟩
  rw [List.map_cons, if_pos rfl, hF]
  congr 1
  apply List.map_congr_left
  intro n hm
  rw [if_neg (show ¬ n = a from fun e => hn.1 (by rw [← e]; exact hm))]
theorem far_map {p q : List Int} {F : Int → Int} (h : far (p.map F) = false) : far (embL p q F) = false := by
 unfold far at h ⊢
 rw [List.any_eq_false] at h ⊢
 intro x hx
 unfold embL at hx
 rw [List.mem_map] at hx
 obtain ⟨n, _, rfl⟩ := hx
 by_cases hm : n ∈ p
 ·rw [if_pos hm]; exact h _ (List.mem_map.2 ⟨n, hm, rfl⟩)
 ·rw [if_neg hm]; decide
theorem back_eq {p q : List Int} {F : Int → Int} (h : lostL p q F = false) : embL q p (fun n => if n ∈ p then F n else 0) = p.map F ∧ lostL q p (fun n => if n ∈ p then F n else 0) = false := by
 unfold lostL at h
 rw [List.any_eq_false] at h
 constructor
 ·unfold embL
  apply List.map_congr_left
  intro n hn
  show (if n ∈ q then (if n ∈ p then F n else 0) else 0) = F n
  rw [if_pos hn]
  by_cases hm : n ∈ q
  ·rw [if_pos hm]
  ·rw [if_neg hm]
   have := h n hn
   simp only [Bool.and_eq_true, decide_eq_true_eq, bne_iff_ne, not_and, Decidable.not_not] at this
   exact (this hm).symm
 ·unfold lostL
  rw [List.any_eq_false]
  intro n hn
  simp only [Bool.and_eq_true, decide_eq_true_eq, bne_iff_ne, not_and, Decidable.not_not]
  intro hm
  rw [if_neg hm]
theorem embeds_j2 {ps qs : List Nat} (hp : Lst ps) (hq : Lst qs) (F : Int → Int) (hc : chk (il ps) ((il ps).map F) = 0) (y : List Int) (e : Int) (hye : (y, e) = if lostL (il ps) (il qs) F = true then ([], 25) else (embL (il ps) (il qs) F, 0)) :
  Ev (fun k => schismalaw11_PrimeEmbeds.j2 k ((il ps).map F) (il ps) (il qs) y e (embL (il ps) (il qs) F) (lostL (il ps) (il qs) F) false) true := by
 refine Ev.succ ?_
 simp only [schismalaw11_PrimeEmbeds.j2]
 refine Ev.ite_neg (by simp) ?_
 have h1 := hp.few
 have h2 := hq.few
 by_cases hl : lostL (il ps) (il qs) F = true
 ·rw [if_pos hl] at hye
  injection hye with hy he
  subst hy he
  exact Ev.ite_pos hl (Ev.ite_pos rfl (Ev.val rfl))
 ·rw [if_neg hl] at hye
  injection hye with hy he
  subst hy he
  obtain ⟨b1, b2⟩ := back_eq (by simpa using hl)
  have hb : Ev (fun k => prime_Embed.f k (il qs) (il ps) (embL (il ps) (il qs) F)) ((il ps).map F, 0) := by
   have hc2 : chk (il qs) ((il qs).map fun n => if n ∈ il ps then F n else 0) = 0 := by
    unfold chk
    rw [if_pos (by simp)]
    have := far_map (q := il qs) (chk_zero hc).2
    unfold embL at this
    rw [this]; rfl
   have := embed_ev hq hp (fun n => if n ∈ il ps then F n else 0) hc2
   rw [b2, b1] at this
   exact this
  refine Ev.ite_neg hl (Ev.bind hb (Ev.ite_pos rfl (Ev.bind (equalR_ev _ _ (by rw [embL_length, il_length]; omega)) (Ev.ite_pos (by simp) (Ev.ite_pos rfl (Ev.bindr (equalR_ev _ _ (by rw [List.length_map, il_length]; omega)) (by simp)))))))
theorem embeds_loop {ps qs : List Nat} (hp : Lst ps) (hq : Lst qs) (F : Int → Int) (hc : chk (il ps) ((il ps).map F) = 0) (y : List Int) (e : Int) (hye : (y, e) = if lostL (il ps) (il qs) F = true then ([], 25) else (embL (il ps) (il qs) F, 0)) :
  ∀ (d i : Nat) (left : Bool), (il ps).length = i + d → left = lostL ((il ps).take i) (il qs) F →
   Ev (fun k => schismalaw11_PrimeEmbeds.l0 k ((il ps).map F) (il ps) (il qs) y e (embL (il ps) (il qs) F) 0 (embL ((il ps).take i) (il qs) F) left ((il ps).map F) ((il ps).length : Int) (i : Int)) true := by
 have h1 := hp.few
 have h2 := hq.few
 have hnd := hq.nodup
 have l1 := il_length ps
 have l2 := il_length qs
 intro d
 induction d with
 | zero =>
  intro i left hi hl
  refine Ev.succ ?_
  simp only [schismalaw11_PrimeEmbeds.l0]
  rw [List.take_of_length_le (by omega)] at hl ⊢
  subst hl
  refine Ev.ite_neg (by omega) (Ev.ite_pos (by simp) (Ev.bind (equalR_ev _ _ (by rw [embL_length]; omega)) ?_))
  have := embeds_j2 hp hq F hc y e hye
  simpa using this
 | succ d ih =>
  intro i left hi hl
  have hlt : i < (il ps).length := by omega
  refine Ev.succ ?_
  simp only [schismalaw11_PrimeEmbeds.l0, List.length_map]
  rw [rd_nat, rd_nat, getD_mapF hlt, w64 (x := (i : Int) + 1) (by omega) (by omega)]
  have hn := ih (i + 1)
  rw [take_snoc hlt] at hn
  generalize (il ps).getD i 0 = a at *
  simp only [List.length_map] at l1 l2 hlt hi
  refine Ev.ite_pos (by omega) (Ev.ite_pos (by omega) (Ev.ite_pos (by omega) (Ev.ite_pos (by omega) ?_)))
  rcases index_ev (il qs) a (by rw [il_length]; omega) with ⟨hm, j, hj, hja, hev⟩ | ⟨hm, hev⟩
  ·refine Ev.bind hev (Ev.ite_pos (by omega) (Ev.ite_pos (by omega) (Ev.ite_pos (by rw [embL_length]; omega) ?_)))
   rw [Int.toNat_natCast, embL_hit hnd hj hja]
   have := hn left (by rw [il_length]; omega) (by rw [lostL_hit hm]; exact hl)
   rw [show ((i + 1 : Nat) : Int) = (i : Int) + 1 by omega] at this
   simpa only [List.length_map] using this
  ·refine Ev.bind hev (Ev.ite_neg (by decide) ?_)
   rw [embL_miss hm] at hn
   simp only [List.length_map] at hn
   by_cases h : left = true
   ·exact Ev.ite_pos h (hn true (by omega) (by rw [lostL_miss hm, ← hl, h]; rfl))
   ·refine Ev.ite_neg h (hn _ (by omega) ?_)
    rw [lostL_miss hm, ← hl, Bool.eq_false_iff.2 h, Bool.false_or]
theorem embeds_ev (a b : Int) (x : List Int) : Ev (fun k => schismalaw11_PrimeEmbeds.f k a b x) true := by
 unfold schismalaw11_PrimeEmbeds.f
 refine Ev.bind known11_ev (Ev.ite_pos rfl ?_)
 by_cases h8 : (x.length : Int) > 8
 ·rw [decide_eq_true h8]
  refine Ev.succ ?_
  simp only [schismalaw11_PrimeEmbeds.j0]
  exact Ev.ite_pos (by simp) (Ev.bindr known11_ev rfl)
 ·rw [decide_eq_false h8]
  refine Ev.succ ?_
  simp only [schismalaw11_PrimeEmbeds.j0]
  obtain ⟨ps, hp, hep⟩ := make11_ev a
  obtain ⟨qs, hq, heq⟩ := make11_ev b
  refine Ev.ite_neg (by simp) (Ev.bind hep (Ev.bind heq ?_))
  by_cases hc : chk (il ps) x = 0
  ·obtain ⟨hlen, hfar⟩ := chk_zero hc
   obtain ⟨F, rfl⟩ := as_map (il ps) x hp.nodup hlen
   have hE := embed_ev hp hq F hc
   obtain ⟨⟨y, e⟩, hye⟩ : ∃ r : List Int × Int, r = if lostL (il ps) (il qs) F = true then ([], 25) else (embL (il ps) (il qs) F, 0) := ⟨_, rfl⟩
   rw [← hye] at hE
   refine Ev.bind hE (Ev.bind (restrict_ev hp hq F hc) (Ev.bindc (row_val _ _) (Ev.ite_pos hc (Ev.ite_pos (by omega) (Ev.ite_pos (by have := hq.few; rw [il_length]; omega) ?_)))))
   have := embeds_loop hp hq F hc y e hye (il ps).length 0 false (by omega) rfl
   rw [List.take_zero, embL_nil] at this
   have e2 : ((il ps).map F).length = (il ps).length := by simp
   rw [Int.toNat_natCast, e2]
   exact this
  ·exact Ev.bind (embed_bad hp hq hc) (Ev.bind (restrict_bad hp hq hc) (Ev.bindc (row_val _ _) (Ev.ite_neg hc (Ev.ite_pos rfl (Ev.ite_pos rfl (Ev.val (by simp only [List.length_nil]; rw [w64 (by decide) (by decide)]; rfl)))))))
end Go.Proofs.YtccebdpjdpjgnaaGreatDoor.Q
end
section
namespace Go.Proofs.YtccebdpjdpjgnaaGreatDoor.D
open Go.ChangeShapes Go.WideShapes Go.ChangeAt Go.RowKit Go.Proofs.YtccebdpjdpjgnaaGreatDoorW.PrintWords
set_option maxRecDepth 100000
theorem open_lists {w : World} {base : Nat} {v : Value} (h : Value.okWide Tryz.prog w .any base 88 v) : ∃ a b : Int, v = .agg #[.int .u16 a, .int .u16 b] ∧ (0 ≤ a ∧ a ≤ 65535) ∧ 0 ≤ b ∧ b ≤ 65535 := by
 obtain ⟨cs, rfl, hs, hall⟩ := open_cells (ts := [86, 86]) (.inl ⟨_, Tryz.underlying88⟩) (by kernel_rfl) (by kernel_rfl) h
 obtain ⟨x0, h0, k0⟩ := hall 0 86 rfl
 obtain ⟨x1, h1, k1⟩ := hall 1 86 rfl
 obtain ⟨a, rfl, ha⟩ := cell_int Tryz.underlying86 k0
 obtain ⟨b, rfl, hb⟩ := cell_int Tryz.underlying86 k1
 refine ⟨a, b, ?_, ⟨ha.1, ha.2⟩, hb.1, hb.2⟩
 congr 1
 apply Array.ext_getElem?
 intro i
 rcases (show i = 0 ∨ i = 1 ∨ 2 ≤ i by omega) with rfl | rfl | hi
 ·exact h0
 ·exact h1
 ·rw [Array.getElem?_eq_none (by rw [hs]; exact hi), Array.getElem?_eq_none (by exact hi)]
def L7 : List (String × DataW Unit) := [("math/bits.deBruijn32tab", Rows.laid_math_bits_deBruijn32tab), ("math/bits.deBruijn64tab", Rows.laid_math_bits_deBruijn64tab), ("internal/strconv.uint64pow10", Rows.laid_internal_strconv_uint64pow10), ("unicode/utf8.acceptRanges", Rows.laid_unicode_utf8_acceptRanges), ("strconv.ErrRange", Rows.laid_strconv_ErrRange), ("strconv.ErrSyntax", Rows.laid_strconv_ErrSyntax), ("unicode/utf8.first", Rows.laid_unicode_utf8_first)]
theorem tabW_of_laid7 {W : World} (h : laidMetH Tryz.prog L7 W) (hs : W.ShapedOpen Tryz.prog) : TabW W := by
 rw [MakeChecks.laidMetH_plain _ _ _ (by kernel_rfl)] at h
 obtain ⟨ps, ⟨_, _, _, _, _, _, _, _, _, _, ⟨_, _, _, _, _, _, _, _, _, _, ⟨g2, t2, cs2, f2, p2, q2, hg2, ht2, hv2, hd2, ⟨_, _, _, _, _, _, _, _, _, _, ⟨g4, t4, cs4, f4, p4, q4, hg4, ht4, hv4, hd4, ⟨g5, t5, cs5, f5, p5, q5, hg5, ht5, hv5, hd5, ⟨_, _, _, _, _, _, _, _, _, _, _, _⟩, _⟩, _⟩, _⟩, _⟩, _⟩, _⟩, _, _⟩ := h
 obtain rfl := Option.some.inj (g_pow.symm.trans hg2)
 obtain rfl := Option.some.inj (g_rng.symm.trans hg4)
 obtain rfl := Option.some.inj (g_syn.symm.trans hg5)
 obtain rfl := Option.some.inj (t_pow.symm.trans ht2)
 obtain rfl := Option.some.inj (t_rng.symm.trans ht4)
 obtain rfl := Option.some.inj (t_syn.symm.trans ht5)
 refine ⟨?_, ?_, ?_, ?_⟩
 ·have e : (Rows.laid_internal_strconv_uint64pow10 : DataW Unit) = Lib.tabData .u64 Lib.pow10Tab := by kernel_rfl
  rw [e] at hd2
  unfold Lib.TabIs
  rw [hv2, ← Lib.cells_of_tab Tryz.underlying290 (by rfl) (by kernel_rfl) (by kernel_rfl) hd2]
 ·obtain ⟨_, u, v, e, _⟩ := iface_of_trod Tryz.underlying162 hd5
  exact ⟨u, v, by rw [hv5, arr_eq e]⟩
 ·obtain ⟨_, u, v, e, _⟩ := iface_of_trod Tryz.underlying162 hd4
  exact ⟨u, v, by rw [hv4, arr_eq e]⟩
 ·exact cell_of_shapedOpen_int (k := .i64) (t := 3) (zero := #[.int .i64 0]) hs (of_decide_eq_true (by kernel_rfl)) (by kernel_rfl) rfl (by kernel_rfl) (by kernel_rfl) Tryz.underlying3
end Go.Proofs.YtccebdpjdpjgnaaGreatDoor.D
end
