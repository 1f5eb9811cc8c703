/-
parts of the walks and of the plain laws: QTexts Door3
-/
import Derived.Lib.SplitLaws
import Derived.Lib.CountLaws
import Derived.Test.YtccebdpjdpjgnaaGreatDoorTX35
import Derived.Test.YtccebdpjdpjgnaaGreatDoorTX37
import Derived.Test.YtccebdpjdpjgnaaGreatDoorTX39
import Derived.Test.YtccebdpjdpjgnaaGreatDoorTX06
set_option linter.unusedVariables false
set_option linter.unusedSimpArgs false
section
namespace Go.Proofs.YtccebdpjdpjgnaaGreatDoor.Q
open Go.Lib hiding bytesOf bytesOf_length
open Go Go.RowKit Sch Go.Proofs.YtccebdpjdpjgnaaGreatDoor.P Go.Proofs.YtccebdpjdpjgnaaGreatDoorW.PrintWords Go.Proofs.YtccebdpjdpjgnaaGreatDoorW.PrintLast Go.Proofs.YtccebdpjdpjgnaaGreatDoorW.PrintMore
theorem idx_hit (d rest : List UInt8) (h : ∀ c ∈ d, c ≠ 46) : Lib.index (d ++ 46 :: rest) [46] = (d.length : Int) := by
 induction d with
 | nil => simp [Lib.index]
 | cons c d ih =>
  have hc := h c (by simp)
  have i1 := ih (fun c hc => h c (by simp [hc]))
  rw [List.cons_append, Lib.index]
  have hp : ([46] : List UInt8).isPrefixOf (c :: (d ++ 46 :: rest)) = false := by
   simp [List.isPrefixOf, Ne.symm hc]
  rw [hp, if_neg (by simp), i1, if_neg (by simp <;> omega), List.length_cons]
  omega
theorem idx_miss (d : List UInt8) (h : ∀ c ∈ d, c ≠ 46) : Lib.index d [46] = -1 := by
 induction d with
 | nil => rfl
 | cons c d ih =>
  have hc := h c (by simp)
  have i1 := ih (fun c hc => h c (by simp [hc]))
  rw [Lib.index]
  have hp : ([46] : List UInt8).isPrefixOf (c :: d) = false := by
   simp [List.isPrefixOf, Ne.symm hc]
  rw [hp, if_neg (by simp), i1, if_pos (by rfl)]
theorem join_two (d e : List UInt8) (ds : List (List UInt8)) : Lib.join (d :: e :: ds) [46] = d ++ 46 :: Lib.join (e :: ds) [46] := by
 rw [Lib.join_cons, Lib.join_cons]
 simp [Lib.joinTail]
theorem split_join : ∀ (ds : List (List UInt8)) (d : List UInt8), (∀ x ∈ d :: ds, ∀ c ∈ x, c ≠ 46) → Lib.count (Lib.join (d :: ds) [46]) [46] = ds.length ∧ Lib.splitK [46] 0 ds.length (Lib.join (d :: ds) [46]) = d :: ds
 | [], d, h => by
  have hm := idx_miss d (h d (by simp))
  rw [Lib.join_one]
  exact ⟨Lib.count_miss hm, rfl⟩
 | e :: ds, d, h => by
  have hh := idx_hit d (Lib.join (e :: ds) [46]) (h d (by simp))
  obtain ⟨i1, i2⟩ := split_join ds e (fun x hx => h x (List.mem_cons_of_mem _ hx))
  have hdrop : (d ++ 46 :: Lib.join (e :: ds) [46]).drop (d.length + ([46] : List UInt8).length) = Lib.join (e :: ds) [46] := by
   rw [show d.length + ([46] : List UInt8).length = d.length + 1 from rfl]
   have : d ++ 46 :: Lib.join (e :: ds) [46] = (d ++ [46]) ++ Lib.join (e :: ds) [46] := by simp
   rw [this, List.drop_left' (by simp)]
  rw [join_two]
  refine ⟨?_, ?_⟩
  ·rw [Lib.count_hit (by simp) hh, hdrop, i1, List.length_cons]; omega
  ·rw [List.length_cons, Lib.splitK, hh, if_neg (by simp <;> omega), Int.toNat_natCast, hdrop, i2, Nat.add_zero, List.take_left]
theorem splitB_join {s : ByteArray} {d : List UInt8} {ds : List (List UInt8)} (hs : s.data.toList = Lib.join (d :: ds) [46]) (h : ∀ x ∈ d :: ds, ∀ c ∈ x, c ≠ 46) :
  Lib.splitB ⟨#[46]⟩ 0 (Lib.countB s ⟨#[46]⟩) s = (d :: ds).map fun x => (⟨x.toArray⟩ : ByteArray) := by
 obtain ⟨h1, h2⟩ := split_join ds d h
 have e1 : Lib.countB s ⟨#[46]⟩ = ds.length := by
  show Lib.count s.data.toList [46] = _
  rw [hs, h1]
 have e2 : (Lib.splitB ⟨#[46]⟩ 0 (Lib.countB s ⟨#[46]⟩) s).map (·.data.toList) = d :: ds := by
  rw [Lib.splitB_data, e1, hs]
  exact h2
 rw [← e2, List.map_map]
 symm
 exact List.map_id'' (fun x => by cases x; simp) _
theorem split_size (sep : ByteArray) : ∀ (k : Nat) (s t : ByteArray), t ∈ Lib.splitB sep 0 k s → t.size ≤ s.size
 | 0, s, t, h => by
  rw [Lib.splitB_zero, List.mem_singleton] at h
  rw [h]; exact Nat.le_refl _
 | k + 1, s, t, h => by
  unfold Lib.splitB at h
  split at h
  ·rw [List.mem_singleton] at h; rw [h]; exact Nat.le_refl _
  ·rw [List.mem_cons] at h
   rcases h with rfl | h
   ·rw [ByteArray.size_extract]; omega
   ·have := split_size sep k _ t h
    rw [ByteArray.size_extract] at this
    omega
theorem atoi_range {l : List UInt8} {v : Int} (h : Lib.atoiAll l = .ok v) : -9223372036854775808 ≤ v ∧ v ≤ 9223372036854775807 := by
 unfold Lib.atoiAll at h
 split at h
 ·cases h
 ·dsimp only at h
  split at h
  ·cases h
  ·cases h
  ·split at h
   ·cases h
   ·split at h
    ·cases h
    ·injection h with h
     subst h
     split <;> omega
theorem atoi_any (s : ByteArray) (h : s.size ≤ 100000) : ∃ (n : Int) (e : Option Int), strconv_Atoi.f s = some (n, e) ∧ (e.isNone = true → -9223372036854775808 ≤ n ∧ n ≤ 9223372036854775807) := by
 unfold strconv_Atoi.f
 rw [if_pos (by omega)]
 cases ha : Lib.atoiAll s.data.toList with
 | ok v => exact ⟨v, none, rfl, fun _ => atoi_range ha⟩
 | «syntax» => exact ⟨0, some 0, rfl, fun h => by simp at h⟩
 | range => exact ⟨Lib.atoiSat s.data.toList, some 0, rfl, fun h => by simp at h⟩
theorem rdS_nat (l : List ByteArray) (i : Nat) : rdOf ByteArray.empty l (i : Int) = l.getD i ByteArray.empty := by unfold rdOf; simp
theorem three {n : Int} (h : 0 ≤ n) : nDigits n.toNat ≤ 3 ↔ n ≤ 999 := by
 rw [nd_le_iff (by decide)]
 omega
theorem parse_loops (l : List ByteArray) (hl : l.length ≤ 1000) (hs : ∀ t ∈ l, t.size ≤ 1000) : ∀ (d i : Nat) (acc : List Int), l.length = i + d → acc.length ≤ i →
  ∃ r : Option (List Int), (∀ v, r = some v → v.length ≤ 1000) ∧ Ev (fun k => prime_Parse.l0 k acc l (l.length : Int) (i : Int)) (match r with | none => ([], 15) | some v => if primeErr v = 0 then (v, 0) else ([], primeErr v)) ∧
   Ev (fun k => schismalaw11_parse.l0 k acc l (l.length : Int) (i : Int)) (match r with | none => ([], false) | some v => (v, true)) := by
 intro d
 induction d with
 | zero =>
  intro i acc hi ha
  refine ⟨some acc, ?_, Ev.succ ?_, Ev.succ ?_⟩
  ·intro v hv
   injection hv with hv
   subst hv; omega
  ·simp only [prime_Parse.l0]
   refine Ev.ite_neg (by omega) (Ev.bind (primeCheck_ev acc) ?_)
   by_cases h : primeErr acc = 0
   ·exact Ev.eq (Ev.ite_pos h (Ev.val rfl)) (if_pos h).symm
   ·exact Ev.eq (Ev.ite_neg h (Ev.val rfl)) (if_neg h).symm
  ·simp only [schismalaw11_parse.l0]
   exact Ev.ite_neg (by omega) (Ev.val rfl)
 | succ d ih =>
  intro i acc hi ha
  have hlt : i < l.length := by omega
  have hmem : l.getD i ByteArray.empty ∈ l := by
   rw [List.getD_eq_getElem?_getD, List.getElem?_eq_getElem hlt]; exact List.getElem_mem hlt
  have hts := hs _ hmem
  obtain ⟨n, e, hat, hrange⟩ := atoi_any (l.getD i ByteArray.empty) (by omega)
  have bad : ((∀ k, (prime_Parse.l0 (k + 1) acc l (l.length : Int) (i : Int)) = some ([], 15)) ∧ (∀ k, (schismalaw11_parse.l0 (k + 1) acc l (l.length : Int) (i : Int)) = some ([], false))) →
    ∃ r : Option (List Int), (∀ v, r = some v → v.length ≤ 1000) ∧ Ev (fun k => prime_Parse.l0 k acc l (l.length : Int) (i : Int)) (match r with | none => ([], 15) | some v => if primeErr v = 0 then (v, 0) else ([], primeErr v)) ∧
     Ev (fun k => schismalaw11_parse.l0 k acc l (l.length : Int) (i : Int)) (match r with | none => ([], false) | some v => (v, true)) := by
   intro hb
   refine ⟨none, ?_, Ev.succ ⟨0, fun k _ => hb.1 k⟩, Ev.succ ⟨0, fun k _ => hb.2 k⟩⟩
   intro v hv
   cases hv
  have i0 : (i : Int) < (l.length : Int) := by omega
  have i1 : (0 : Int) ≤ (i : Int) := by omega
  by_cases he : e.isNone = true
  ·obtain ⟨r0, r1⟩ := hrange he
   have hit : strconv_Itoa.f n = some (zs n) := by
    unfold strconv_Itoa.f
    rw [if_pos ⟨r0, r1⟩]; rfl
   by_cases hn : n < 0
   ·refine bad ⟨fun k => ?_, fun k => ?_⟩
    ·simp only [prime_Parse.l0]
     rw [rdS_nat, if_pos i0, if_pos i1, if_pos i0, hat, Option.bind_some, if_pos he, if_pos hn]
    ·simp only [schismalaw11_parse.l0]
     rw [rdS_nat, if_pos i0, if_pos i1, if_pos i0, hat, Option.bind_some, if_pos he, hit, Option.bind_some]
     dsimp only
     by_cases h3 : ((l.getD i ByteArray.empty).size : Int) > 3
     ·rw [if_pos h3]
     ·rw [if_neg h3]
      by_cases hq : (zs n).toList = (l.getD i ByteArray.empty).toList
      ·rw [if_pos hq, if_pos hn]
      ·rw [if_neg hq]
   ·by_cases hq : (zs n).toList = (l.getD i ByteArray.empty).toList
    ·have hsz : (l.getD i ByteArray.empty).size = nDigits n.toNat := by
      have : (zs n).data.toList = (l.getD i ByteArray.empty).data.toList := by rw [toList_data, toList_data] at hq; exact hq
      rw [← data_length, ← this, data_length, zs_size, if_neg hn]
      congr 1; omega
     by_cases h9 : n > 999
     ·have h3 : ((l.getD i ByteArray.empty).size : Int) > 3 := by
       rw [hsz]
       have := mt (three (n := n) (by omega)).1 (by omega)
       omega
      refine bad ⟨fun k => ?_, fun k => ?_⟩
      ·simp only [prime_Parse.l0]
       rw [rdS_nat, if_pos i0, if_pos i1, if_pos i0, hat, Option.bind_some, if_pos he, if_neg hn, if_pos h9]
      ·simp only [schismalaw11_parse.l0]
       rw [rdS_nat, if_pos i0, if_pos i1, if_pos i0, hat, Option.bind_some, if_pos he, if_pos h3]
     ·have h3 : ¬ ((l.getD i ByteArray.empty).size : Int) > 3 := by
       rw [hsz]
       have := (three (n := n) (by omega)).2 (by omega)
       omega
      obtain ⟨r, g0, g1, g2⟩ := ih (i + 1) (acc ++ [n]) (by omega) (by simp; omega)
      refine ⟨r, g0, Ev.succ ?_, Ev.succ ?_⟩
      ·simp only [prime_Parse.l0]
       rw [rdS_nat, hat, w64 (by omega) (by omega)]
       exact Ev.ite_pos i0 (Ev.ite_pos i1 (Ev.ite_pos i0 (Ev.bindc rfl (Ev.ite_pos he (Ev.ite_neg hn (Ev.ite_neg h9 (Ev.bindc hit (Ev.ite_pos hq (Ev.ite_pos (by omega) g1)))))))))
      ·simp only [schismalaw11_parse.l0]
       rw [rdS_nat, hat, w64 (by omega) (by omega)]
       exact Ev.ite_pos i0 (Ev.ite_pos i1 (Ev.ite_pos i0 (Ev.bindc rfl (Ev.ite_pos he (Ev.ite_neg h3 (Ev.bindc hit (Ev.ite_pos hq (Ev.ite_neg hn (Ev.ite_pos (by omega) g2)))))))))
    ·refine bad ⟨fun k => ?_, fun k => ?_⟩
     ·simp only [prime_Parse.l0]
      rw [rdS_nat, if_pos i0, if_pos i1, if_pos i0, hat, Option.bind_some, if_pos he, if_neg hn, hit, Option.bind_some, if_neg hq]
      split <;> rfl
     ·simp only [schismalaw11_parse.l0]
      rw [rdS_nat, if_pos i0, if_pos i1, if_pos i0, hat, Option.bind_some, if_pos he, hit, Option.bind_some, if_neg hq]
      split <;> rfl
  ·refine bad ⟨fun k => ?_, fun k => ?_⟩
   ·simp only [prime_Parse.l0]
    rw [rdS_nat, if_pos i0, if_pos i1, if_pos i0, hat, Option.bind_some, if_neg he]
   ·simp only [schismalaw11_parse.l0]
    rw [rdS_nat, if_pos i0, if_pos i1, if_pos i0, hat, Option.bind_some, if_neg he]
theorem split_val (s : ByteArray) (h : s.size ≤ 1000) : strings_Split.f s (⟨#[46]⟩ : ByteArray) = some (Lib.splitB ⟨#[46]⟩ 0 (Lib.countB s ⟨#[46]⟩) s) := by
 unfold strings_Split.f
 rw [if_pos ⟨by omega, by decide⟩]
theorem texts_j1 (s : ByteArray) : Ev (fun k => schismalaw11_PrimeTexts.j1 k s false) true := by
 refine Ev.succ ?_
 simp only [schismalaw11_PrimeTexts.j1]
 refine Ev.ite_neg (by simp) ?_
 have hmain : ∃ r : Option (List Int), (∀ v, r = some v → v.length ≤ 1000) ∧ Ev (fun k => prime_Parse.f k s) (match r with | none => ([], 15) | some v => if primeErr v = 0 then (v, 0) else ([], primeErr v)) ∧ Ev (fun k => schismalaw11_parse.f k s) (match r with | none => ([], false) | some v => (v, true)) := by
  unfold prime_Parse.f schismalaw11_parse.f
  by_cases h : (s.size : Int) > 40
  ·refine ⟨none, ?_, Ev.ite_pos h (Ev.val rfl), Ev.ite_pos h (Ev.val rfl)⟩
   intro v hv
   cases hv
  ·have hlen := Lib.splitB_length_le ⟨#[46]⟩ 0 (Lib.countB s ⟨#[46]⟩) s
   have hle := Lib.countB_le (⟨#[46]⟩ : ByteArray) (by decide) s.size s (Nat.le_refl _)
   obtain ⟨r, g0, g1, g2⟩ := parse_loops (Lib.splitB ⟨#[46]⟩ 0 (Lib.countB s ⟨#[46]⟩) s) (by omega) (fun t ht => by have := split_size _ _ _ t ht; omega) _ 0 [] (Nat.zero_add _).symm (Nat.le_refl _)
   have hsp := split_val s (by omega)
   exact ⟨r, g0, Ev.ite_neg h (Ev.bindc hsp g1), Ev.ite_neg h (Ev.bindc hsp g2)⟩
 obtain ⟨r, g0, g1, g2⟩ := hmain
 refine Ev.bind g1 (Ev.bind g2 ?_)
 cases r with
 | none => exact Ev.ite_neg (by simp) (Ev.ite_pos rfl (Ev.val rfl))
 | some v =>
  refine Ev.ite_pos rfl (Ev.bind (check11_ev v) ?_)
  by_cases h : primeErr v = 0
  ·refine Ev.ite_pos h ?_
   simp only [if_pos h]
   exact Ev.ite_pos (by simp) (Ev.bindr (equalP_ev v v (g0 v rfl)) (by simp))
  ·refine Ev.ite_neg h ?_
   simp only [if_neg h]
   exact Ev.ite_pos (by simp) (Ev.val rfl)
def dotT (ps : List Nat) : ByteArray := ⟨(Lib.join (ps.map decDigits) [46]).toArray⟩
theorem dot_len : ∀ ps : List Nat, (∀ p ∈ ps, p ≤ 53) → (Lib.joinTail [46] (ps.map decDigits)).length ≤ 3 * ps.length
 | [], _ => by simp [Lib.joinTail]
 | p :: ps, h => by
  have h1 : nDigits p ≤ 2 := nd_le (by have := h p (by simp); omega) (by decide)
  have h2 := dot_len ps (fun q hq => h q (by simp [hq]))
  unfold Lib.joinTail at *
  simp only [List.map_cons, List.flatten_cons, List.length_append, List.length_cons, List.length_nil, decDigits_length] at *
  omega
theorem dot_size {ps : List Nat} (h : Lst ps) : (dotT ps).size ≤ 18 := by
 have hf := h.few
 have hp := h.pos
 unfold dotT
 cases ps with
 | nil => simp at hp
 | cons p ps =>
  have h1 : nDigits p ≤ 2 := nd_le (by have := (h.rng p (by simp)).2; omega) (by decide)
  have h2 := dot_len ps (fun q hq => (h.rng q (by simp [hq])).2)
  rw [List.map_cons, Lib.join_cons]
  simp only [ByteArray.size, List.size_toArray, List.length_append, decDigits_length, List.length_cons] at *
  omega
theorem join_val {ps : List Nat} (h : Lst ps) : strings_Join.f (ps.map ns) (⟨#[46]⟩ : ByteArray) = some (dotT ps) := by
 have hs := dot_size h
 have hf := h.few
 unfold strings_Join.f
 have e1 : (ps.map ns).map (·.data.toList) = ps.map decDigits := by rw [List.map_map]; rfl
 have e2 : (⟨#[46]⟩ : ByteArray).data.toList = [46] := rfl
 have e3 : (Lib.join (ps.map decDigits) [46]).length ≤ 18 := by
  unfold dotT at hs
  simpa [ByteArray.size] using hs
 rw [e1, e2, if_pos ⟨by omega, by rw [List.length_map]; omega⟩]
 rfl
theorem ptext_loop {ps : List Nat} (h : Lst ps) : ∀ (d i : Nat) (acc : List ByteArray), ps.length = i + d → acc = (ps.take i).map ns → Ev (fun k => prime_Text.l0 k acc (il ps) (ps.length : Int) (i : Int)) (dotT ps, 0) := by
 have hf := h.few
 intro d
 induction d with
 | zero =>
  intro i acc hi ha
  refine Ev.succ ?_
  simp only [prime_Text.l0]
  rw [List.take_of_length_le (by omega)] at ha
  subst ha
  exact Ev.ite_neg (by omega) (Ev.bindc (join_val h) (Ev.val rfl))
 | succ d ih =>
  intro i acc hi ha
  have hlt : i < ps.length := by omega
  have hr := h.rng _ (getDN_mem ps i hlt)
  have hl : acc.length = i := by rw [ha, List.length_map, List.length_take]; omega
  refine Ev.succ ?_
  simp only [prime_Text.l0, il_length]
  rw [rd_nat, il_getD, w64 (by omega) (by omega)]
  have hit : strconv_Itoa.f ((ps.getD i 0 : Nat) : Int) = some (ns (ps.getD i 0)) := by
   unfold strconv_Itoa.f
   rw [if_pos ⟨by omega, by omega⟩, ← zs_nat]; rfl
  refine Ev.ite_pos (by omega) (Ev.ite_pos (by omega) (Ev.ite_pos (by omega) (Ev.bindc hit (Ev.ite_pos (by omega) (ih (i + 1) _ (by omega) ?_)))))
  rw [ha, List.getD_eq_getElem?_getD, List.getElem?_eq_getElem hlt, List.take_succ_eq_append_getElem hlt]
  rw [List.map_append]; rfl
theorem ltext_loop {ps : List Nat} (h : Lst ps) : ∀ (d i : Nat) (acc : List ByteArray), ps.length = i + d → acc = (ps.take i).map ns → Ev (fun k => schismalaw11_text.l0 k acc (il ps) (ps.length : Int) (i : Int)) (dotT ps) := by
 have hf := h.few
 intro d
 induction d with
 | zero =>
  intro i acc hi ha
  refine Ev.succ ?_
  simp only [schismalaw11_text.l0]
  rw [List.take_of_length_le (by omega)] at ha
  subst ha
  exact Ev.ite_neg (by omega) (Ev.bindc (join_val h) (Ev.val rfl))
 | succ d ih =>
  intro i acc hi ha
  have hlt : i < ps.length := by omega
  have hr := h.rng _ (getDN_mem ps i hlt)
  have hl : acc.length = i := by rw [ha, List.length_map, List.length_take]; omega
  refine Ev.succ ?_
  simp only [schismalaw11_text.l0, il_length]
  rw [rd_nat, il_getD, w64 (by omega) (by omega)]
  have hit : strconv_Itoa.f ((ps.getD i 0 : Nat) : Int) = some (ns (ps.getD i 0)) := by
   unfold strconv_Itoa.f
   rw [if_pos ⟨by omega, by omega⟩, ← zs_nat]; rfl
  refine Ev.ite_pos (by omega) (Ev.ite_pos (by omega) (Ev.ite_pos (by omega) (Ev.bindc hit (Ev.ite_pos (by omega) (ih (i + 1) _ (by omega) ?_)))))
  rw [ha, List.getD_eq_getElem?_getD, List.getElem?_eq_getElem hlt, List.take_succ_eq_append_getElem hlt]
  rw [List.map_append]; rfl
theorem pback_loop {ps : List Nat} (h : Lst ps) : ∀ (d i : Nat) (acc : List Int), ps.length = i + d → acc = il (ps.take i) → Ev (fun k => prime_Parse.l0 k acc (ps.map ns) (ps.length : Int) (i : Int)) (il ps, 0) := by
 have hf := h.few
 intro d
 induction d with
 | zero =>
  intro i acc hi ha
  refine Ev.succ ?_
  simp only [prime_Parse.l0]
  rw [List.take_of_length_le (by omega)] at ha
  subst ha
  exact Ev.ite_neg (by omega) (Ev.bind (primeCheck_ev _) (Ev.ite_pos h.err (Ev.val rfl)))
 | succ d ih =>
  intro i acc hi ha
  have hlt : i < ps.length := by omega
  have hr := h.rng _ (getDN_mem ps i hlt)
  have hl : acc.length = i := by rw [ha, il_length, List.length_take]; omega
  have hg : (ps.map ns).getD i ByteArray.empty = ns (ps.getD i 0) := by
   rw [List.getD_eq_getElem?_getD, List.getD_eq_getElem?_getD, List.getElem?_map, List.getElem?_eq_getElem hlt]; rfl
  refine Ev.succ ?_
  simp only [prime_Parse.l0, List.length_map]
  rw [rdS_nat, hg, ← zs_nat, atoi_zs (by omega) (by omega), w64 (by omega) (by omega)]
  have hit : strconv_Itoa.f ((ps.getD i 0 : Nat) : Int) = some (zs (ps.getD i 0 : Nat)) := by
   unfold strconv_Itoa.f
   rw [if_pos ⟨by omega, by omega⟩]; rfl
  refine Ev.ite_pos (by omega) (Ev.ite_pos (by omega) (Ev.ite_pos (by omega) (Ev.bindc rfl (Ev.ite_pos rfl (Ev.ite_neg (by omega) (Ev.ite_neg (by omega) (Ev.bindc hit (Ev.ite_pos rfl (Ev.ite_pos (by omega) (ih (i + 1) _ (by omega) ?_))))))))))
  rw [ha, List.getD_eq_getElem?_getD, List.getElem?_eq_getElem hlt, List.take_succ_eq_append_getElem hlt]
  unfold il
  rw [List.map_append]; rfl
theorem pback_ev {ps : List Nat} (h : Lst ps) : Ev (fun k => prime_Parse.f k (dotT ps)) (il ps, 0) := by
 have hs := dot_size h
 have hp := h.pos
 unfold prime_Parse.f
 have hsp := split_val (dotT ps) (by omega)
 have e : Lib.splitB ⟨#[46]⟩ 0 (Lib.countB (dotT ps) ⟨#[46]⟩) (dotT ps) = ps.map ns := by
  cases ps with
  | nil => simp at hp
  | cons p ps =>
   have := splitB_join (s := dotT (p :: ps)) (d := decDigits p) (ds := ps.map decDigits) rfl (fun x hx c hc => by
    rw [← List.map_cons, List.mem_map] at hx
    obtain ⟨n, _, rfl⟩ := hx
    have := dec_isD n c hc
    unfold isD at this
    rintro rfl
    revert this; decide)
   rw [this, ← List.map_cons, List.map_map]; rfl
 rw [e] at hsp
 refine Ev.ite_neg (by omega) (Ev.bindc hsp ?_)
 rw [List.length_map]
 exact pback_loop h ps.length 0 [] (by omega) rfl
theorem texts_ev (a b : Int) (s : ByteArray) : Ev (fun k => schismalaw11_PrimeTexts.f k a b s) true := by
 unfold schismalaw11_PrimeTexts.f
 refine Ev.bind known11_ev (Ev.ite_pos rfl ?_)
 by_cases h8 : (s.size : Int) > 50
 ·rw [decide_eq_true h8]
  refine Ev.succ ?_
  simp only [schismalaw11_PrimeTexts.j0]
  exact Ev.ite_pos (by simp) (Ev.bindr known11_ev rfl)
 ·rw [decide_eq_false h8]
  refine Ev.succ ?_
  simp only [schismalaw11_PrimeTexts.j0]
  obtain ⟨ps, hp, hep⟩ := make11_ev a
  have ht : Ev (fun k => prime_Text.f k (il ps)) (dotT ps, 0) := by
   unfold prime_Text.f
   refine Ev.bind (primeCheck_ev _) (Ev.ite_pos hp.err ?_)
   rw [il_length]
   exact ptext_loop hp ps.length 0 [] (by omega) rfl
  have hl : Ev (fun k => schismalaw11_text.f k (il ps)) (dotT ps) := by
   unfold schismalaw11_text.f
   rw [il_length]
   exact ltext_loop hp ps.length 0 [] (by omega) rfl
  have hf := hp.few
  refine Ev.ite_neg (by simp) (Ev.bind hep (Ev.bind ht (Ev.bind (pback_ev hp) (Ev.ite_pos rfl (Ev.bind hl (Ev.ite_pos rfl (Ev.ite_pos rfl (Ev.bind (equalP_ev _ _ (by rw [il_length]; omega)) ?_))))))))
  simp only [decide_true, Bool.not_true]
  exact texts_j1 s
end Go.Proofs.YtccebdpjdpjgnaaGreatDoor.Q
end
section
namespace Go.Proofs.YtccebdpjdpjgnaaGreatDoor.D
open Go.ChangeShapes Go.WideShapes Go.ChangeAt Go.RowKit Go.Proofs.YtccebdpjdpjgnaaGreatDoorW.PrintWords
set_option maxRecDepth 100000
theorem open_lists {w : World} {base : Nat} {v : Value} (h : Value.okWide Tryz.prog w .any base 88 v) : ∃ a b : Int, v = .agg #[.int .u16 a, .int .u16 b] ∧ (0 ≤ a ∧ a ≤ 65535) ∧ 0 ≤ b ∧ b ≤ 65535 := by
 obtain ⟨cs, rfl, hs, hall⟩ := open_cells (ts := [86, 86]) (.inl ⟨_, Tryz.underlying88⟩) (by kernel_rfl) (by kernel_rfl) h
 obtain ⟨x0, h0, k0⟩ := hall 0 86 rfl
 obtain ⟨x1, h1, k1⟩ := hall 1 86 rfl
 obtain ⟨a, rfl, ha⟩ := cell_int Tryz.underlying86 k0
 obtain ⟨b, rfl, hb⟩ := cell_int Tryz.underlying86 k1
 refine ⟨a, b, ?_, ⟨ha.1, ha.2⟩, hb.1, hb.2⟩
 congr 1
 apply Array.ext_getElem?
 intro i
 rcases (show i = 0 ∨ i = 1 ∨ 2 ≤ i by omega) with rfl | rfl | hi
 ·exact h0
 ·exact h1
 ·rw [Array.getElem?_eq_none (by rw [hs]; exact hi), Array.getElem?_eq_none (by exact hi)]
def L7 : List (String × DataW Unit) := [("math/bits.deBruijn32tab", Rows.laid_math_bits_deBruijn32tab), ("math/bits.deBruijn64tab", Rows.laid_math_bits_deBruijn64tab), ("internal/strconv.uint64pow10", Rows.laid_internal_strconv_uint64pow10), ("unicode/utf8.acceptRanges", Rows.laid_unicode_utf8_acceptRanges), ("strconv.ErrRange", Rows.laid_strconv_ErrRange), ("strconv.ErrSyntax", Rows.laid_strconv_ErrSyntax), ("unicode/utf8.first", Rows.laid_unicode_utf8_first)]
theorem tabW_of_laid7 {W : World} (h : laidMetH Tryz.prog L7 W) (hs : W.ShapedOpen Tryz.prog) : TabW W := by
 rw [MakeChecks.laidMetH_plain _ _ _ (by kernel_rfl)] at h
 obtain ⟨ps, ⟨_, _, _, _, _, _, _, _, _, _, ⟨_, _, _, _, _, _, _, _, _, _, ⟨g2, t2, cs2, f2, p2, q2, hg2, ht2, hv2, hd2, ⟨_, _, _, _, _, _, _, _, _, _, ⟨g4, t4, cs4, f4, p4, q4, hg4, ht4, hv4, hd4, ⟨g5, t5, cs5, f5, p5, q5, hg5, ht5, hv5, hd5, ⟨_, _, _, _, _, _, _, _, _, _, _, _⟩, _⟩, _⟩, _⟩, _⟩, _⟩, _⟩, _, _⟩ := h
 obtain rfl := Option.some.inj (g_pow.symm.trans hg2)
 obtain rfl := Option.some.inj (g_rng.symm.trans hg4)
 obtain rfl := Option.some.inj (g_syn.symm.trans hg5)
 obtain rfl := Option.some.inj (t_pow.symm.trans ht2)
 obtain rfl := Option.some.inj (t_rng.symm.trans ht4)
 obtain rfl := Option.some.inj (t_syn.symm.trans ht5)
 refine ⟨?_, ?_, ?_, ?_⟩
 ·have e : (Rows.laid_internal_strconv_uint64pow10 : DataW Unit) = Lib.tabData .u64 Lib.pow10Tab := by kernel_rfl
  rw [e] at hd2
  unfold Lib.TabIs
  rw [hv2, ← Lib.cells_of_tab Tryz.underlying290 (by rfl) (by kernel_rfl) (by kernel_rfl) hd2]
 ·obtain ⟨_, u, v, e, _⟩ := iface_of_trod Tryz.underlying162 hd5
  exact ⟨u, v, by rw [hv5, arr_eq e]⟩
 ·obtain ⟨_, u, v, e, _⟩ := iface_of_trod Tryz.underlying162 hd4
  exact ⟨u, v, by rw [hv4, arr_eq e]⟩
 ·exact cell_of_shapedOpen_int (k := .i64) (t := 3) (zero := #[.int .i64 0]) hs (of_decide_eq_true (by kernel_rfl)) (by kernel_rfl) rfl (by kernel_rfl) (by kernel_rfl) Tryz.underlying3
end Go.Proofs.YtccebdpjdpjgnaaGreatDoor.D
end
