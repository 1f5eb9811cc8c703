/-
parts of the walks and of the plain laws: QParses Door3
-/
import Derived.Test.YtccebdpjdpjgnaaGreatDoorMP34
import Derived.Test.YtccebdpjdpjgnaaGreatDoorMP36
import Derived.Test.YtccebdpjdpjgnaaGreatDoorMP42
import Derived.Test.YtccebdpjdpjgnaaGreatDoorMP06
set_option linter.unusedVariables false
set_option linter.unusedSimpArgs false
section
namespace Go.Proofs.YtccebdpjdpjgnaaGreatDoor.Q
open Go.Lib hiding bytesOf bytesOf_length
open Go Go.RowKit Sch Go.Proofs.YtccebdpjdpjgnaaGreatDoor.P Go.Proofs.YtccebdpjdpjgnaaGreatDoorW.PrintWords Go.Proofs.YtccebdpjdpjgnaaGreatDoorW.PrintLast Go.Proofs.YtccebdpjdpjgnaaGreatDoorW.PrintMore
theorem ba_ext {a b : ByteArray} (h : a.data.toList = b.data.toList) : a = b := by
 cases a; cases b; congr; exact Array.toList_inj.1 h
theorem pre_yes (c : UInt8) (r : List UInt8) : stringslite_HasPrefix.f ⟨(c :: r).toArray⟩ ⟨#[c]⟩ = some true := by
 unfold stringslite_HasPrefix.f
 have h1 : ((⟨(c :: r).toArray⟩ : ByteArray).extract 0 ((((⟨#[c]⟩ : ByteArray).size : Int)) : Int).toNat).toList = [c] := by
  rw [toList_data, extract_data]; rfl
 have hs : ((⟨(c :: r).toArray⟩ : ByteArray).size : Int) = (r.length : Int) + 1 := by simp [ByteArray.size]
 have h2 : (⟨#[c]⟩ : ByteArray).size = 1 := rfl
 rw [if_pos (by rw [hs, h2]; omega), if_pos (by rw [h2]; omega), if_pos (by rw [hs, h2]; omega), h1, toList_data]
 simp
theorem pre_no (c d : UInt8) (r : List UInt8) (h : c ≠ d) : stringslite_HasPrefix.f ⟨(c :: r).toArray⟩ ⟨#[d]⟩ = some false := by
 unfold stringslite_HasPrefix.f
 have h1 : ((⟨(c :: r).toArray⟩ : ByteArray).extract 0 ((((⟨#[d]⟩ : ByteArray).size : Int)) : Int).toNat).toList = [c] := by
  rw [toList_data, extract_data]; rfl
 have hs : ((⟨(c :: r).toArray⟩ : ByteArray).size : Int) = (r.length : Int) + 1 := by simp [ByteArray.size]
 have h2 : (⟨#[d]⟩ : ByteArray).size = 1 := rfl
 rw [if_pos (by rw [hs, h2]; omega), if_pos (by rw [h2]; omega), if_pos (by rw [hs, h2]; omega), h1, toList_data]
 simp [h]
theorem cut_yes (c : UInt8) (r : List UInt8) : stringslite_CutPrefix.f ⟨(c :: r).toArray⟩ ⟨#[c]⟩ = some (⟨r.toArray⟩, true) := by
 unfold stringslite_CutPrefix.f
 have h2 : (⟨#[c]⟩ : ByteArray).size = 1 := rfl
 have hs : (⟨(c :: r).toArray⟩ : ByteArray).size = r.length + 1 := by simp [ByteArray.size]
 rw [pre_yes, Option.bind_some, if_pos rfl, if_pos (by rw [h2]; omega), if_pos (by rw [hs, h2]; omega)]
 congr 2
 apply ba_ext
 rw [extract_data, hs, h2]
 simp
theorem cut_no (c d : UInt8) (r : List UInt8) (h : c ≠ d) : stringslite_CutPrefix.f ⟨(c :: r).toArray⟩ ⟨#[d]⟩ = some (⟨(c :: r).toArray⟩, false) := by
 unfold stringslite_CutPrefix.f
 rw [pre_no c d r h, Option.bind_some, if_neg (by decide)]
theorem suf_yes (c : UInt8) (r : List UInt8) (hr : r.length ≤ 1000000000) : stringslite_CutSuffix.f ⟨(r ++ [c]).toArray⟩ ⟨#[c]⟩ = some (⟨r.toArray⟩, true) := by
 have hs : (⟨(r ++ [c]).toArray⟩ : ByteArray).size = r.length + 1 := by simp [ByteArray.size]
 have h2 : (⟨#[c]⟩ : ByteArray).size = 1 := rfl
 have hw : wrap64 (((⟨(r ++ [c]).toArray⟩ : ByteArray).size : Int) - ((⟨#[c]⟩ : ByteArray).size : Int)) = (r.length : Int) := by
  rw [hs, h2, w64 (by omega) (by omega)]; omega
 unfold stringslite_CutSuffix.f stringslite_HasSuffix.f
 rw [hw]
 have h1 : ((⟨(r ++ [c]).toArray⟩ : ByteArray).extract ((r.length : Int)).toNat (⟨(r ++ [c]).toArray⟩ : ByteArray).size).toList = [c] := by
  rw [toList_data, extract_data, hs]
  simp
 rw [if_pos (by rw [hs, h2]; omega), if_pos (by omega), if_pos (by rw [hs]; omega), h1, toList_data, Option.bind_some, if_pos (by simp), if_pos (by omega), if_pos (by rw [hs]; omega)]
 congr 2
 apply ba_ext
 rw [extract_data]
 simp
abbrev P_bytes (s : ByteArray) : List Int := bytesOf s
theorem trim_zs (z : Int) : strings_TrimPrefix.f (zs z) (⟨#[45]⟩ : ByteArray) = some (ns z.natAbs) := by
 unfold strings_TrimPrefix.f stringslite_TrimPrefix.f
 rcases nat_or_neg z with ⟨n, rfl⟩ | ⟨n, hn, rfl⟩
 ·obtain ⟨c, r, e, g1, g2⟩ := head_digit n
  have e2 : zs (n : Int) = ⟨(c :: r).toArray⟩ := by rw [zs_nat]; unfold ns; rw [e]
  rw [e2, pre_no c 45 r (by rintro rfl; exact g2 rfl), Option.bind_some, if_neg (by decide), Option.bind_some, Int.natAbs_natCast]
  unfold ns; rw [e]
 ·rw [zs_neg hn, pre_yes, Option.bind_some, if_pos rfl]
  have h2 : (⟨#[45]⟩ : ByteArray).size = 1 := rfl
  have hs : (⟨(45 :: decDigits n).toArray⟩ : ByteArray).size = (decDigits n).length + 1 := by simp [ByteArray.size]
  rw [if_pos (by rw [h2]; omega), if_pos (by rw [hs, h2]; omega), Option.bind_some, Int.natAbs_neg, Int.natAbs_natCast]
  congr 1
  apply ba_ext
  rw [extract_data, hs, h2, ns_toList]
  simp
theorem canon_loop (x0 t : ByteArray) (y : List Int) (hy : ∀ v ∈ y, 48 ≤ v ∧ v ≤ 57) (hlen : y.length ≤ 1000000) (hfin : (if x0.toList = ([48] : List UInt8) then some true else (if t.toList = ([] : List UInt8) then some false else (if 0 < (t.size : Int) then some ((bt t 0) != 48) else none))) = some true) :
  ∀ (d i : Nat), y.length = i + d → Ev (fun k => row_canonical.l0 k x0 t y (y.length : Int) (i : Int)) true := by
 intro d
 induction d with
 | zero =>
  intro i hi
  refine Ev.succ ?_
  unfold row_canonical.l0
  exact Ev.ite_neg (by omega) (Ev.val hfin)
 | succ d ih =>
  intro i hi
  have hlt : i < y.length := by omega
  have hm := hy (y.getD i 0) (by rw [List.getD_eq_getElem?_getD, List.getElem?_eq_getElem hlt]; exact List.getElem_mem hlt)
  have h1 := ih (i + 1) (by omega)
  refine Ev.succ ?_
  unfold row_canonical.l0
  rw [rd_nat, w64 (x := (i : Int) + 1) (by omega) (by omega)]
  exact Ev.ite_pos (by omega) (Ev.ite_pos (by omega) (Ev.ite_pos (by omega) (Ev.ite_neg (by omega) (Ev.ite_neg (by omega) h1))))
theorem bytes_dig (n : Nat) : ∀ v ∈ (P_bytes (ns n)), 48 ≤ v ∧ v ≤ 57 := by
 intro v hv
 obtain ⟨i, hi, rfl⟩ := List.mem_iff_getElem.1 hv
 have hi2 : i < (ns n).size := by simpa [P_bytes, bytesOf_length] using hi
 have h1 := rd_bytes (ns n) i hi2
 have h2 : rd (P_bytes (ns n)) (i : Int) = (P_bytes (ns n))[i] := by
  rw [rd_nat, List.getD_eq_getElem?_getD, List.getElem?_eq_getElem hi]; rfl
 rw [← h2]
 have h3 := dec_isD n ((ns n).data.toList[i]'(by rw [data_length]; exact hi2)) (List.getElem_mem _)
 unfold isD at h3
 have h4 : rd (P_bytes (ns n)) (i : Int) = (((ns n).data.toList[i]'(by rw [data_length]; exact hi2)).toNat : Int) := h1
 rw [h4]
 omega
theorem canon_zs (z : Int) (hz : nDigits z.natAbs ≤ 1000) : Ev (fun k => row_canonical.f k (zs z)) true := by
 unfold row_canonical.f
 have hl : (P_bytes (ns z.natAbs)).length = nDigits z.natAbs := by unfold P_bytes; rw [bytesOf_length, ns_size]
 refine Ev.bindc (trim_zs z) (Ev.ite_pos (by rw [ns_size]; omega) (Ev.bindc rfl ?_))
 refine canon_loop (zs z) (ns z.natAbs) (P_bytes (ns z.natAbs)) (bytes_dig _) (by omega) ?_ (P_bytes (ns z.natAbs)).length 0 (by omega)
 by_cases h0 : z = 0
 ·rw [if_pos (zs_eq0.2 h0)]
 ·obtain ⟨c, r, e, _, hc⟩ := dec_head z.natAbs (by omega)
  have e2 : ns z.natAbs = ⟨(c :: r).toArray⟩ := by unfold ns; rw [e]
  rw [if_neg (fun h => h0 (zs_eq0.1 h)), e2, if_neg (by rw [toList_data]; simp), if_pos (by simp [ByteArray.size]), bt_head]
  congr 1
  rw [bne_iff_ne]
  intro h
  exact hc (UInt8.toNat_inj.1 (by show c.toNat = 48; omega))
theorem idx_hit32 (d rest : List UInt8) (h : ∀ c ∈ d, c ≠ 32) : Lib.index (d ++ 32 :: rest) [32] = (d.length : Int) := by
 induction d with
 | nil => simp [Lib.index]
 | cons c d ih =>
  have hc := h c (by simp)
  have i1 := ih (fun c hc => h c (by simp [hc]))
  rw [List.cons_append, Lib.index]
  have hp : ([32] : List UInt8).isPrefixOf (c :: (d ++ 32 :: rest)) = false := by
   simp [List.isPrefixOf, Ne.symm hc]
  rw [hp, if_neg (by simp), i1, if_neg (by simp <;> omega), List.length_cons]
  omega
theorem idx_miss32 (d : List UInt8) (h : ∀ c ∈ d, c ≠ 32) : Lib.index d [32] = -1 := by
 induction d with
 | nil => rfl
 | cons c d ih =>
  have hc := h c (by simp)
  have i1 := ih (fun c hc => h c (by simp [hc]))
  rw [Lib.index]
  have hp : ([32] : List UInt8).isPrefixOf (c :: d) = false := by
   simp [List.isPrefixOf, Ne.symm hc]
  rw [hp, if_neg (by simp), i1, if_pos (by rfl)]
theorem join_two32 (d e : List UInt8) (ds : List (List UInt8)) : Lib.join (d :: e :: ds) [32] = d ++ 32 :: Lib.join (e :: ds) [32] := by
 rw [Lib.join_cons, Lib.join_cons]
 simp [Lib.joinTail]
theorem split_join32 : ∀ (ds : List (List UInt8)) (d : List UInt8), (∀ x ∈ d :: ds, ∀ c ∈ x, c ≠ 32) → Lib.count (Lib.join (d :: ds) [32]) [32] = ds.length ∧ Lib.splitK [32] 0 ds.length (Lib.join (d :: ds) [32]) = d :: ds
 | [], d, h => by
  have hm := idx_miss32 d (h d (by simp))
  rw [Lib.join_one]
  exact ⟨Lib.count_miss hm, rfl⟩
 | e :: ds, d, h => by
  have hh := idx_hit32 d (Lib.join (e :: ds) [32]) (h d (by simp))
  obtain ⟨i1, i2⟩ := split_join32 ds e (fun x hx => h x (List.mem_cons_of_mem _ hx))
  have hdrop : (d ++ 32 :: Lib.join (e :: ds) [32]).drop (d.length + ([32] : List UInt8).length) = Lib.join (e :: ds) [32] := by
   rw [show d.length + ([32] : List UInt8).length = d.length + 1 from rfl]
   have : d ++ 32 :: Lib.join (e :: ds) [32] = (d ++ [32]) ++ Lib.join (e :: ds) [32] := by simp
   rw [this, List.drop_left' (by simp)]
  rw [join_two32]
  refine ⟨?_, ?_⟩
  ·rw [Lib.count_hit (by simp) hh, hdrop, i1, List.length_cons]; omega
  ·rw [List.length_cons, Lib.splitK, hh, if_neg (by simp <;> omega), Int.toNat_natCast, hdrop, i2, Nat.add_zero, List.take_left]
theorem splitB_join32 {s : ByteArray} {d : List UInt8} {ds : List (List UInt8)} (hs : s.data.toList = Lib.join (d :: ds) [32]) (h : ∀ x ∈ d :: ds, ∀ c ∈ x, c ≠ 32) :
  Lib.splitB ⟨#[32]⟩ 0 (Lib.countB s ⟨#[32]⟩) s = (d :: ds).map fun x => (⟨x.toArray⟩ : ByteArray) := by
 obtain ⟨h1, h2⟩ := split_join32 ds d h
 have e1 : Lib.countB s ⟨#[32]⟩ = ds.length := by
  show Lib.count s.data.toList [32] = _
  rw [hs, h1]
 have e2 : (Lib.splitB ⟨#[32]⟩ 0 (Lib.countB s ⟨#[32]⟩) s).map (·.data.toList) = d :: ds := by
  rw [Lib.splitB_data, e1, hs]
  exact h2
 rw [← e2, List.map_map]
 symm
 exact List.map_id'' (fun x => by cases x; simp) _
theorem itoa_chars (z : Int) : ∀ c ∈ itoa z, c ≠ 32 := by
 intro c hc h
 subst h
 unfold itoa at hc
 split at hc
 ·rcases List.mem_cons.1 hc with h | h
  ·exact absurd h (by decide)
  ·have := dec_isD _ _ h; unfold isD at this; exact absurd this.1 (by decide)
 ·have := dec_isD _ _ hc; unfold isD at this; exact absurd this.1 (by decide)
theorem can_all : ∀ xs : List Int, (∀ x ∈ xs, nDigits x.natAbs ≤ 1000) → Ev (fun k => slices_ContainsFunc_string_string.f k (xs.map zs)) false
 | [], _ => Ev.val rfl
 | x :: xs, h => by
  rw [List.map_cons]
  unfold slices_ContainsFunc_string_string.f
  exact Ev.bind (canon_zs x (h x (by simp))) (Ev.ite_pos rfl (can_all xs fun y hy => h y (by simp [hy])))
theorem rparse_loop (xs : List Int) (hl : xs.length ≤ 64) (hx : ∀ x ∈ xs, -1000000000 ≤ x ∧ x ≤ 1000000000) : ∀ (d i : Nat), xs.length = i + d → Ev (fun k => row_Parse.l0 k (xs.take i) true (xs.map zs) ((xs.map zs).length : Int) (i : Int)) (xs, true, 0) := by
 intro d
 induction d with
 | zero =>
  intro i hi
  have hc : row_Check.f xs = some 0 := by
   unfold row_Check.f
   rw [if_neg]
   rintro (h | h)
   ·omega
   ·rw [List.any_eq_true] at h
    obtain ⟨n, hn, h⟩ := h
    have := hx n hn
    simp only [Bool.or_eq_true, decide_eq_true_eq] at h
    omega
  refine Ev.succ ?_
  unfold row_Parse.l0
  rw [List.length_map, List.take_of_length_le (by omega)]
  exact Ev.ite_neg (by omega) (Ev.bindc hc (Ev.ite_pos rfl (Ev.val rfl)))
 | succ d ih =>
  intro i hi
  have hlt : i < xs.length := by omega
  have h1 := ih (i + 1) (by omega)
  rw [List.length_map] at h1
  have hb := hx _ (List.getElem_mem hlt)
  have hr : rdOf ByteArray.empty (xs.map zs) (i : Int) = zs xs[i] := by
   rw [rdS_nat, List.getD_eq_getElem?_getD, List.getElem?_eq_getElem (by simpa using hlt)]; simp
  rw [List.take_succ_eq_append_getElem hlt] at h1
  refine Ev.succ ?_
  unfold row_Parse.l0
  rw [List.length_map, hr, w64 (x := (i : Int) + 1) (by omega) (by omega)]
  exact Ev.ite_pos (by omega) (Ev.ite_pos (by omega) (Ev.ite_pos (by omega) (Ev.bindc (atoi_zs (by omega) (by omega)) (Ev.ite_pos rfl (Ev.ite_pos (by rw [List.length_take]; omega) h1)))))
theorem rowB_list (xs : List Int) : rowB xs true = ⟨(91 :: (Lib.join (xs.map itoa) [32] ++ [62])).toArray⟩ := by
 apply ba_ext
 unfold rowB
 rw [if_pos rfl]
 simp
theorem rparse_ev (xs : List Int) (h0 : 1 ≤ xs.length) (hl : xs.length ≤ 64) (hx : ∀ x ∈ xs, -1000000000 ≤ x ∧ x ≤ 1000000000) : Ev (fun k => row_Parse.f k (rowB xs true)) (xs, true, 0) := by
 have hj := join_len xs hx
 have hnd : ∀ x ∈ xs, nDigits x.natAbs ≤ 1000 := fun x hm => by
  have := hx x hm
  have : nDigits x.natAbs ≤ 10 := nd_le (by omega) (by decide)
  omega
 obtain ⟨x, ys, rfl⟩ : ∃ x ys, xs = x :: ys := by
  cases xs with
  | nil => simp at h0
  | cons x ys => exact ⟨x, ys, rfl⟩
 unfold row_Parse.f
 rw [rowB_list]
 generalize hJ : Lib.join ((x :: ys).map itoa) [32] = J at hj
 have hs : ((⟨(91 :: (J ++ [62])).toArray⟩ : ByteArray).size : Int) = (J.length : Int) + 2 := by simp [ByteArray.size]; omega
 have hcut : strings_CutPrefix.f ⟨(91 :: (J ++ [62])).toArray⟩ ⟨#[91]⟩ = some (⟨(J ++ [62]).toArray⟩, true) := by
  unfold strings_CutPrefix.f; rw [cut_yes]; rfl
 have hsuf : strings_CutSuffix.f ⟨(J ++ [62]).toArray⟩ ⟨#[62]⟩ = some (⟨J.toArray⟩, true) := by
  unfold strings_CutSuffix.f; rw [suf_yes 62 J (by omega)]; rfl
 have hsp : strings_Split.f ⟨J.toArray⟩ ⟨#[32]⟩ = some ((x :: ys).map zs) := by
  unfold strings_Split.f
  rw [if_pos ⟨by show J.toArray.size < _; rw [List.size_toArray]; omega, by decide⟩]
  rw [splitB_join32 (d := itoa x) (ds := ys.map itoa) (by rw [← hJ]; simp) (fun w hw c hc => by
   rw [← List.map_cons] at hw
   obtain ⟨z, _, rfl⟩ := List.mem_map.1 hw
   exact itoa_chars z c hc)]
  rw [← List.map_cons, List.map_map]
  rfl
 have hne : ¬ ((⟨J.toArray⟩ : ByteArray).toList = ([] : List UInt8)) := by
  rw [toList_data]
  intro e
  have e2 : J = [] := by simpa using e
  rw [← hJ, List.map_cons, Lib.join_cons] at e2
  have e3 := (List.append_eq_nil_iff.1 e2).1
  unfold itoa at e3
  split at e3
  ·cases e3
  ·obtain ⟨c, r, e4, _⟩ := head_digit x.toNat
   rw [e4] at e3; cases e3
 refine Ev.ite_neg (by rw [hs]; omega) (Ev.bindc hcut (Ev.ite_pos rfl (Ev.succ ?_)))
 unfold row_Parse.j0
 have hlp := rparse_loop (x :: ys) hl hx (x :: ys).length 0 (by omega)
 rw [List.take_zero] at hlp
 exact Ev.bindc hsuf (Ev.ite_pos rfl (Ev.ite_neg hne (Ev.bindc hsp (Ev.bind (can_all (x :: ys) hnd) (Ev.ite_neg (by decide) hlp)))))
theorem digits_loop (s : ByteArray) (hs : ∀ c ∈ s.data.toList, isD c) (hl : s.size ≤ 1000000) (r : ByteArray × Bool) (hfin : ((strings_TrimLeft.f s (⟨#[48]⟩ : ByteArray)).bind fun t => (if t.toList = ([] : List UInt8) then some ((⟨#[48]⟩ : ByteArray), true) else some (t, true))) = some r) :
  ∀ (d i : Nat), s.size = i + d → Ev (fun k => fraction_digits.l0 k s (s.size : Int) (i : Int)) r := by
 intro d
 induction d with
 | zero =>
  intro i hi
  refine Ev.succ ?_
  unfold fraction_digits.l0
  exact Ev.ite_neg (by omega) (Ev.val hfin)
 | succ d ih =>
  intro i hi
  have hlt : i < s.size := by omega
  have hb := bt_list s i hlt
  have hm := hs (s.data.toList[i]'(by rw [data_length]; exact hlt)) (List.getElem_mem _)
  unfold isD at hm
  have h1 := ih (i + 1) (by omega)
  refine Ev.succ ?_
  unfold fraction_digits.l0
  rw [hb, w64 (x := (i : Int) + 1) (by omega) (by omega)]
  exact Ev.ite_pos (by omega) (Ev.ite_pos (by omega) (Ev.ite_pos (by omega) (Ev.ite_neg (by omega) (Ev.ite_neg (by omega) h1))))
theorem digits_ns (n : Nat) (h : 1 ≤ n) (hn : nDigits n ≤ 400) : Ev (fun k => fraction_digits.f k (ns n)) (ns n, true) := by
 obtain ⟨c, r, e, _, hc⟩ := dec_head n (by omega)
 have e2 : ns n = ⟨(c :: r).toArray⟩ := by unfold ns; rw [e]
 have hne : ¬ ((ns n).toList = ([] : List UInt8)) := by rw [e2, toList_data]; simp
 unfold fraction_digits.f
 refine Ev.ite_neg hne (digits_loop (ns n) (by rw [ns_toList]; exact dec_isD n) (by rw [ns_size]; omega) _ ?_ (ns n).size 0 (by omega))
 have ht : strings_TrimLeft.f (ns n) (⟨#[48]⟩ : ByteArray) = some (ns n) := by
  unfold strings_TrimLeft.f
  rw [if_pos rfl, e2]
  congr 1
  apply ba_ext
  show (Lib.trimLeftB (c :: r) 48) = c :: r
  unfold Lib.trimLeftB
  rw [List.dropWhile_cons_of_neg]
  simpa using hc
 rw [ht, Option.bind_some, if_neg hne]
theorem lowest_ns (n d : Nat) (hd : 1 ≤ d) (hg : Nat.gcd n d = 1) (h1 : nDigits n ≤ 400) (h2 : nDigits d ≤ 400) : Ev (fun k => fraction_lowest.f k (ns n) (ns d)) (ns n, ns d) := by
 unfold fraction_lowest.f
 have hs : whole_Sign.f (ns d) = some 1 := by
  rw [← zs_nat, sign_zs]
  unfold cmpI
  rw [if_neg (by omega), if_neg (by omega)]
 have hgcd := wgcd_ev (n : Int) (d : Int) (by simpa using (by omega : nDigits n ≤ 100000)) (by simpa using (by omega : nDigits d ≤ 100000))
 rw [zs_nat, zs_nat, Int.natAbs_natCast, Int.natAbs_natCast, Nat.gcd_comm, hg] at hgcd
 refine Ev.bindc hs (Ev.ite_neg (by decide) (Ev.succ ?_))
 unfold fraction_lowest.j0
 exact Ev.bind hgcd (Ev.ite_pos (ns_eq1.2 rfl) (Ev.val rfl))
theorem fparse_tail (n d : Nat) (hn : 1 ≤ n) (hd : 1 ≤ d) (hg : Nat.gcd n d = 1) (h1 : nDigits n ≤ 400) (h2 : nDigits d ≤ 400) : Ev (fun k => fraction_Parse.j0 k false (ns n) (ns d) true true) (ns n, ns d, 0) := by
 refine Ev.succ ?_
 unfold fraction_Parse.j0
 refine Ev.ite_pos rfl (Ev.succ ?_)
 unfold fraction_Parse.j1
 exact Ev.ite_neg (by decide) (Ev.ite_neg (fun e => by have := ns_eq0.1 e; omega) (Ev.ite_neg (by decide) (Ev.bind (lowest_ns n d hd hg h1 h2) (Ev.val rfl))))
theorem any_dig : ∀ l : List UInt8, (∀ c ∈ l, isD c) → Lib.indexAny l [47, 46] = -1
 | [], _ => rfl
 | c :: l, h => by
  have hc := h c (by simp)
  unfold isD at hc
  have h47 : c ≠ 47 := by rintro rfl; exact absurd hc.1 (by decide)
  have h46 : c ≠ 46 := by rintro rfl; exact absurd hc.1 (by decide)
  rw [Lib.indexAny, any_dig l (fun d hd => h d (by simp [hd])), if_neg (by simp [h47, h46]), if_pos (by rfl)]
theorem any_hit : ∀ (l rest : List UInt8), (∀ c ∈ l, isD c) → Lib.indexAny (l ++ 47 :: rest) [47, 46] = (l.length : Int)
 | [], rest, _ => by rw [List.nil_append, Lib.indexAny, if_pos (by decide)]; rfl
 | c :: l, rest, h => by
  have hc := h c (by simp)
  unfold isD at hc
  have h47 : c ≠ 47 := by rintro rfl; exact absurd hc.1 (by decide)
  have h46 : c ≠ 46 := by rintro rfl; exact absurd hc.1 (by decide)
  have ih := any_hit l rest (fun d hd => h d (by simp [hd]))
  rw [List.cons_append, Lib.indexAny, ih, if_neg (by simp [h47, h46]), if_neg (by simp <;> omega), List.length_cons]
  omega
theorem fparse_ev (n d : Nat) (hn : 1 ≤ n) (hd : 1 ≤ d) (hg : Nat.gcd n d = 1) (h1 : nDigits n ≤ 100) (h2 : nDigits d ≤ 100) : Ev (fun k => fraction_Parse.f k (ftB n d)) (ns n, ns d, 0) := by
 have htail := fparse_tail n d hn hd hg (by omega) (by omega)
 obtain ⟨c, r, e, g1, g2⟩ := head_digit n
 have hc45 : c ≠ 45 := by rintro rfl; exact g2 rfl
 unfold fraction_Parse.f ftB
 by_cases hd1 : d = 1
 ·rw [if_pos hd1]
  subst hd1
  have hcut : strings_CutPrefix.f (ns n) ⟨#[45]⟩ = some (ns n, false) := by
   unfold strings_CutPrefix.f
   have e2 : ns n = ⟨(c :: r).toArray⟩ := by unfold ns; rw [e]
   rw [e2, cut_no c 45 r hc45]; rfl
  have hia : strings_IndexAny.f (ns n) ⟨#[47, 46]⟩ = some (-1) := by
   unfold strings_IndexAny.f
   rw [if_pos ⟨by rw [ns_size]; omega, by
    unfold asciiB
    rw [List.all_eq_true]
    intro b hb
    rw [ns_toList] at hb
    have := dec_isD n b hb
    unfold isD at this
    exact decide_eq_true (by omega), rfl⟩, ns_toList]
   show some (Lib.indexAny (decDigits n) [47, 46]) = _
   rw [any_dig _ (dec_isD n)]
  rw [← ns1] at htail ⊢
  exact Ev.ite_neg (by rw [ns_size]; omega) (Ev.bindc hcut (Ev.bindc hia (Ev.ite_pos (by decide) (Ev.bind (digits_ns n hn (by omega)) htail))))
 ·rw [if_neg hd1]
  have hA : (ns n ++ (⟨#[47]⟩ : ByteArray)) ++ ns d = ⟨(decDigits n ++ 47 :: decDigits d).toArray⟩ := by
   apply ba_ext
   simp [ns]
  rw [hA]
  have hs : (⟨(decDigits n ++ 47 :: decDigits d).toArray⟩ : ByteArray).size = nDigits n + 1 + nDigits d := by
   simp [ByteArray.size, decDigits_length]; omega
  have hcut : strings_CutPrefix.f ⟨(decDigits n ++ 47 :: decDigits d).toArray⟩ ⟨#[45]⟩ = some (⟨(decDigits n ++ 47 :: decDigits d).toArray⟩, false) := by
   unfold strings_CutPrefix.f
   rw [e, List.cons_append, cut_no c 45 _ hc45]; rfl
  have hia : strings_IndexAny.f ⟨(decDigits n ++ 47 :: decDigits d).toArray⟩ ⟨#[47, 46]⟩ = some (nDigits n : Int) := by
   unfold strings_IndexAny.f
   rw [if_pos ⟨by rw [hs]; omega, by
    unfold asciiB
    rw [List.all_eq_true]
    intro b hb
    have hb2 : b ∈ decDigits n ++ 47 :: decDigits d := by simpa using hb
    rcases List.mem_append.1 hb2 with hb3 | hb3
    ·have := dec_isD n b hb3
     unfold isD at this
     exact decide_eq_true (by omega)
    ·rcases List.mem_cons.1 hb3 with rfl | hb4
     ·decide
     ·have := dec_isD d b hb4
      unfold isD at this
      exact decide_eq_true (by omega), rfl⟩]
   show some (Lib.indexAny (decDigits n ++ 47 :: decDigits d) [47, 46]) = _
   rw [any_hit _ _ (dec_isD n), decDigits_length]
  have hbt : bt (⟨(decDigits n ++ 47 :: decDigits d).toArray⟩ : ByteArray) (nDigits n : Int) = 47 := by
   rw [bt_list _ _ (by rw [hs]; omega)]
   have : (decDigits n ++ 47 :: decDigits d)[nDigits n]'(by simp [decDigits_length]) = 47 := by
    rw [List.getElem_append_right (by rw [decDigits_length]; exact Nat.le_refl _)]
    simp [decDigits_length]
   show (((decDigits n ++ 47 :: decDigits d)[nDigits n]'(by simp [decDigits_length])).toNat : Int) = 47
   rw [this]; rfl
  have hx1 : (⟨(decDigits n ++ 47 :: decDigits d).toArray⟩ : ByteArray).extract 0 ((nDigits n : Int)).toNat = ns n := by
   apply ba_ext
   rw [extract_data, Int.toNat_natCast, ns_toList]
   simp [decDigits_length]
  have hw : wrap64 ((nDigits n : Int) + 1) = ((nDigits n + 1 : Nat) : Int) := by rw [w64 (by omega) (by omega)]; omega
  have hx2 : (⟨(decDigits n ++ 47 :: decDigits d).toArray⟩ : ByteArray).extract ((nDigits n + 1 : Nat) : Int).toNat (⟨(decDigits n ++ 47 :: decDigits d).toArray⟩ : ByteArray).size = ns d := by
   apply ba_ext
   rw [extract_data, Int.toNat_natCast, ns_toList, hs]
   show ((decDigits n ++ 47 :: decDigits d).drop (nDigits n + 1)).take (nDigits n + 1 + nDigits d - (nDigits n + 1)) = decDigits d
   rw [show decDigits n ++ 47 :: decDigits d = (decDigits n ++ [47]) ++ decDigits d by simp, List.drop_left' (by simp [decDigits_length]), List.take_of_length_le (by rw [decDigits_length]; omega)]
  have hdn := digits_ns n hn (by omega)
  have hdd := digits_ns d hd (by omega)
  refine Ev.ite_neg (by rw [hs]; omega) (Ev.bindc hcut (Ev.bindc hia (Ev.ite_neg (by omega) (Ev.ite_pos (by omega) (Ev.ite_pos (by rw [hs]; omega) (Ev.ite_pos hbt (Ev.ite_pos (by rw [hs]; omega) ?_)))))))
  rw [hx1, hw, hx2]
  exact Ev.bind hdn (Ev.ite_pos (by omega) (Ev.ite_pos (by rw [hs]; omega) (Ev.bind hdd htail)))
theorem Fit.mparse_text {ps : List Nat} {xs : List Int} (h : Fit ps xs) (h1 : nDigits (numL ps xs) ≤ 100) (h2 : nDigits (denL ps xs) ≤ 100) : Ev (fun k => monzo_Parse.f k (il ps) (ftB (numL ps xs) (denL ps xs))) (xs, 0) := by
 have hn := numL_pos ps xs h.apart
 have hd := denL_pos ps xs h.apart
 unfold monzo_Parse.f
 have hp : strings_HasPrefix.f (ftB (numL ps xs) (denL ps xs)) ⟨#[91]⟩ = some false := by
  obtain ⟨c, r, e, _, g2⟩ := head_digit (numL ps xs)
  have hc := dec_isD (numL ps xs) c (by rw [e]; simp)
  unfold isD at hc
  have hc91 : c ≠ 91 := by rintro rfl; exact absurd hc.2 (by decide)
  obtain ⟨t, ht⟩ : ∃ t, ftB (numL ps xs) (denL ps xs) = ⟨(c :: t).toArray⟩ := by
   unfold ftB
   split
   ·exact ⟨r, by unfold ns; rw [e]⟩
   ·exact ⟨r ++ 47 :: decDigits (denL ps xs), by apply ba_ext; simp [ns, e]⟩
  unfold strings_HasPrefix.f
  rw [ht, pre_no c 91 t hc91]; rfl
 refine Ev.bind (primeCheck_ev (il ps)) (Ev.ite_pos h.err (Ev.bindc hp (Ev.ite_neg (by decide) (Ev.bind (fparse_ev _ _ hn hd (num_den_cop ps xs h.apart) h1 h2) (Ev.ite_pos rfl (Ev.bind (h.of (by omega) (by omega)) (Ev.val rfl)))))))
theorem Fit.mparse_row {ps : List Nat} {xs : List Int} (h : Fit ps xs) (h0 : 1 ≤ xs.length) : Ev (fun k => monzo_Parse.f k (il ps) (rowB xs true)) (xs, 0) := by
 have hf := h.few
 have hl := h.len
 unfold monzo_Parse.f
 have hp : strings_HasPrefix.f (rowB xs true) ⟨#[91]⟩ = some true := by
  unfold strings_HasPrefix.f
  rw [rowB_list, pre_yes]; rfl
 refine Ev.bind (primeCheck_ev (il ps)) (Ev.ite_pos h.err (Ev.bindc hp (Ev.ite_pos rfl (Ev.bind (rparse_ev xs h0 (by omega) (fun x hx => by have := h.near x hx; omega)) (Ev.ite_pos rfl (Ev.ite_pos rfl (Ev.bind h.mcheck (Ev.ite_pos rfl (Ev.val rfl)))))))))
theorem parses_ev (a0 a1 a2 a3 a4 : Int) (h0 : 0 ≤ a0) (h1 : a0 ≤ 255) : Ev (fun k => schismalaw12_MonzoParses.f k a0 a1 a2 a3 a4) true := by
 obtain ⟨ps, xs, hok, hl, hx, _, hm⟩ := make_ev a0 a1 a2 a3 a4 h0 h1
 obtain ⟨f, n1, n2⟩ := plan_fit hok hl hx
 unfold schismalaw12_MonzoParses.f
 have htx := f.text
 rw [if_pos ⟨by omega, by omega⟩] at htx
 have hle := f.few
 have hpos : 1 ≤ xs.length := by
  have := f.err
  unfold primeErr at this
  rw [il_length] at this
  split at this
  ·omega
  ·omega
 have hbr := brackets_ev (il ps) xs f.err (by rw [il_length]; exact hl) (by omega) (by
  unfold far
  rw [List.any_eq_false]
  intro x hm
  have := f.near x hm
  simp only [decide_eq_true_eq]
  omega)
 refine Ev.bind known_ev (Ev.ite_pos rfl (Ev.bind (Ev.congr hm (Ev.now _)) (Ev.bind htx (Ev.bind hbr (Ev.bind (f.mparse_text (by omega) (by omega)) (Ev.bind (f.mparse_row hpos) (Ev.ite_pos rfl (Ev.ite_pos rfl (Ev.ite_pos rfl (Ev.ite_pos rfl (Ev.bind (same_ev xs xs (by omega) (by omega)) (Ev.ite_pos (by simp) (Ev.bind (same_ev xs xs (by omega) (by omega)) (Ev.val (by simp)))))))))))))))
end Go.Proofs.YtccebdpjdpjgnaaGreatDoor.Q
end
section
namespace Go.Proofs.YtccebdpjdpjgnaaGreatDoor.D
open Go.ChangeShapes Go.WideShapes Go.ChangeAt Go.RowKit Go.Proofs.YtccebdpjdpjgnaaGreatDoorW.PrintWords
set_option maxRecDepth 100000
def L7 : List (String × DataW Unit) := [("math/bits.deBruijn32tab", Rows.laid_math_bits_deBruijn32tab), ("math/bits.deBruijn64tab", Rows.laid_math_bits_deBruijn64tab), ("internal/strconv.uint64pow10", Rows.laid_internal_strconv_uint64pow10), ("unicode/utf8.acceptRanges", Rows.laid_unicode_utf8_acceptRanges), ("strconv.ErrRange", Rows.laid_strconv_ErrRange), ("strconv.ErrSyntax", Rows.laid_strconv_ErrSyntax), ("unicode/utf8.first", Rows.laid_unicode_utf8_first)]
theorem tabW_of_laid7 {W : World} (h : laidMetH Tryz.prog L7 W) (hs : W.ShapedOpen Tryz.prog) : TabW W := by
 rw [MakeChecks.laidMetH_plain _ _ _ (by kernel_rfl)] at h
 obtain ⟨ps, ⟨_, _, _, _, _, _, _, _, _, _, ⟨_, _, _, _, _, _, _, _, _, _, ⟨g2, t2, cs2, f2, p2, q2, hg2, ht2, hv2, hd2, ⟨_, _, _, _, _, _, _, _, _, _, ⟨g4, t4, cs4, f4, p4, q4, hg4, ht4, hv4, hd4, ⟨g5, t5, cs5, f5, p5, q5, hg5, ht5, hv5, hd5, ⟨_, _, _, _, _, _, _, _, _, _, _, _⟩, _⟩, _⟩, _⟩, _⟩, _⟩, _⟩, _, _⟩ := h
 obtain rfl := Option.some.inj (g_pow.symm.trans hg2)
 obtain rfl := Option.some.inj (g_rng.symm.trans hg4)
 obtain rfl := Option.some.inj (g_syn.symm.trans hg5)
 obtain rfl := Option.some.inj (t_pow.symm.trans ht2)
 obtain rfl := Option.some.inj (t_rng.symm.trans ht4)
 obtain rfl := Option.some.inj (t_syn.symm.trans ht5)
 refine ⟨?_, ?_, ?_, ?_⟩
 ·have e : (Rows.laid_internal_strconv_uint64pow10 : DataW Unit) = Lib.tabData .u64 Lib.pow10Tab := by kernel_rfl
  rw [e] at hd2
  unfold Lib.TabIs
  rw [hv2, ← Lib.cells_of_tab Tryz.underlying290 (by rfl) (by kernel_rfl) (by kernel_rfl) hd2]
 ·obtain ⟨_, u, v, e, _⟩ := iface_of_trod Tryz.underlying162 hd5
  exact ⟨u, v, by rw [hv5, arr_eq e]⟩
 ·obtain ⟨_, u, v, e, _⟩ := iface_of_trod Tryz.underlying162 hd4
  exact ⟨u, v, by rw [hv4, arr_eq e]⟩
 ·exact cell_of_shapedOpen_int (k := .i64) (t := 3) (zero := #[.int .i64 0]) hs (of_decide_eq_true (by kernel_rfl)) (by kernel_rfl) rfl (by kernel_rfl) (by kernel_rfl) Tryz.underlying3
end Go.Proofs.YtccebdpjdpjgnaaGreatDoor.D
end
