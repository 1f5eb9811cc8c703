/-
Plain laws: the reference's integers: texts, products, powers.
-/
import Derived.Test.YtccebdpjdpjgnaaGreatDoorPV33
import Derived.Test.YtccebdpjdpjgnaaGreatDoorPV37
set_option linter.unusedVariables false
set_option linter.unusedSimpArgs false
namespace Go.Proofs.YtccebdpjdpjgnaaGreatDoor.Q
open Go.Lib hiding bytesOf bytesOf_length
open Go Go.RowKit Sch Go.Proofs.YtccebdpjdpjgnaaGreatDoor.P Go.Proofs.YtccebdpjdpjgnaaGreatDoorW.PrintWords Go.Proofs.YtccebdpjdpjgnaaGreatDoorW.PrintLast Go.Proofs.YtccebdpjdpjgnaaGreatDoorW.PrintMore
set_option linter.unusedVariables false
set_option linter.unusedSimpArgs false
theorem rtrim_ev (g : Bool) : ∀ (n : Nat) (l : List Int), l.length = n → n ≤ 1000000000000 → Ev (fun k => schismaref03_trim.f k g l) (g && decide (0 < (stripP l).length), stripP l) := by
 intro n
 induction n with
 | zero =>
  intro l hl _
  obtain rfl := List.length_eq_zero_iff.1 hl
  unfold schismaref03_trim.f
  refine Ev.succ ?_
  simp only [schismaref03_trim.l0]
  refine Ev.ite_neg (by simp) ?_
  cases g with
  | true => exact Ev.ite_pos rfl (Ev.val rfl)
  | false => exact Ev.ite_neg (by simp) (Ev.val rfl)
 | succ n ih =>
  intro l hl hn
  obtain ⟨m, x, rfl⟩ : ∃ m x, l = m ++ [x] := ⟨l.dropLast, l.getLast (by rintro rfl; simp at hl), (List.dropLast_concat_getLast _).symm⟩
  have hm : m.length = n := by simpa using hl
  unfold schismaref03_trim.f
  refine Ev.succ ?_
  have e1 : (((n + 1 : Nat)) : Int) - 1 = (n : Int) := by omega
  simp only [schismaref03_trim.l0, hl, e1]
  rw [w64 (by omega) (by omega)]
  refine Ev.ite_pos (by omega) (Ev.ite_pos (by omega) (Ev.ite_pos (by omega) ?_))
  rw [rd_nat, ← hm, getD_append_last]
  by_cases hx : x = 0
  ·subst hx
   refine Ev.ite_pos rfl (Ev.ite_pos (by omega) ?_)
   rw [stripP_snoc_zero]
   have := ih m hm (by omega)
   unfold schismaref03_trim.f at this
   simpa using this
  ·rw [stripP_snoc hx]
   refine Ev.ite_neg hx ?_
   cases g with
   | true =>
    refine Ev.ite_pos rfl (Ev.val ?_)
    rw [decide_eq_true (by omega), decide_eq_true (by simp)]; rfl
   | false => exact Ev.ite_neg (by simp) (Ev.val rfl)
theorem rtrim_pc {l : List Int} (h : okP l) (hn : l.length ≤ 1000000000000) : Ev (fun k => schismaref03_trim.f k false l) (false, pc (pv l).toNat) := by
 have := rtrim_ev false l.length l rfl hn
 rw [strip_eq h] at this
 exact this
theorem atoi_dig (s : ByteArray) (h : ∀ c ∈ s.data.toList, isD c) (h1 : 1 ≤ s.size) (h9 : s.size ≤ 9) : strconv_Atoi.f s = some (((dv s.data.toList : Nat) : Int), none) := by
 have hlt := dv_lt _ h
 rw [data_length] at hlt
 have hp : 10 ^ s.size ≤ 10 ^ 9 := Nat.pow_le_pow_right (by decide) h9
 unfold strconv_Atoi.f
 have : atoiAll s.data.toList = .ok ((dv s.data.toList : Nat) : Int) := by
  cases e : s.data.toList with
  | nil => rw [← data_length, e] at h1; simp at h1
  | cons c r =>
   have hc := h c (by rw [e]; simp)
   unfold isD at hc
   have hm : parseMag (c :: r) = .ok (dv (c :: r)) := by
    unfold parseMag
    rw [if_neg (by simp), uint_digits _ _ (fun d hd => h d (by rw [e]; exact hd)) (by rw [← e]; omega)]
    simp
   rw [atoiAll_plain c r (by omega) (by omega), hm]
   simp only [signless]
   rw [if_neg (by rw [← e]; omega)]
 rw [if_pos (by omega), this]
theorem rto_loop (D : List UInt8) (hD : ∀ c ∈ D, isD c) (hl : D.length ≤ 1000000) : ∀ (at_ : Nat) (s : ByteArray) (x3 : List Int), s.data.toList = D.take at_ → at_ ≤ D.length → okP x3 → x3.length * 9 + at_ ≤ D.length + 9 → (1 ≤ at_ → x3.length * 9 + at_ = D.length) → pv x3 = dv (D.drop at_) →
  Ev (fun k => schismaref03_To.l0 k s false x3) (false, pc (dv D)) := by
 intro at_
 induction at_ using Nat.strongRecOn with
 | _ at_ ih =>
  intro s x3 hs hat hok hlen hlen2 hpv
  have hsz : s.size = at_ := by rw [← data_length, hs, List.length_take]; omega
  refine Ev.succ ?_
  simp only [schismaref03_To.l0, hsz]
  by_cases h0 : at_ = 0
  ·subst h0
   refine Ev.ite_neg (by omega) (Ev.bindr (rtrim_pc hok (by omega)) ?_)
   rw [hpv, List.drop_zero, Int.toNat_natCast]
  ·have hlo : mx 0 (wrap64 ((at_ : Int) - 9)) = ((at_ - 9 : Nat) : Int) := by
    rw [w64 (by omega) (by omega)]; unfold mx; split <;> omega
   rw [hlo, Int.toNat_natCast]
   have hex : (s.extract (at_ - 9) at_).data.toList = (D.drop (at_ - 9)).take (at_ - (at_ - 9)) := by
    rw [extract_data, hs, List.drop_take, List.take_take]
    congr 1
    omega
   have hsize : (s.extract (at_ - 9) at_).size = at_ - (at_ - 9) := by rw [ByteArray.size_extract]; omega
   have hed : ∀ c ∈ (s.extract (at_ - 9) at_).data.toList, isD c := fun c hc => by
    rw [hex] at hc
    exact hD c (List.mem_of_mem_drop (List.mem_of_mem_take hc))
   have hpl := dv_lt _ hed
   rw [data_length, hsize] at hpl
   have hp9 : 10 ^ (at_ - (at_ - 9)) ≤ 10 ^ 9 := Nat.pow_le_pow_right (by decide) (by omega)
   refine Ev.ite_pos (by omega) (Ev.ite_pos (by omega) (Ev.ite_pos (by omega) (Ev.bindc (atoi_dig _ hed (by omega) (by omega)) (Ev.ite_pos (by omega) ?_))))
   have hsub : (s.extract 0 (at_ - 9)).data.toList = D.take (at_ - 9) := by
    rw [extract_data, hs, List.drop_zero, List.take_take]
    congr 1
    omega
   refine ih (at_ - 9) (by omega) _ _ hsub (by omega) (okP_append.2 ⟨hok, okP_one (by omega) (by unfold B9; omega)⟩) (by simp; omega) (fun h => by simp; omega) ?_
   rw [pv_append, hpv]
   have e1 : D.drop (at_ - 9) = (s.extract (at_ - 9) at_).data.toList ++ D.drop at_ := by
    rw [hex]
    have := (List.take_append_drop (at_ - (at_ - 9)) (D.drop (at_ - 9))).symm
    rw [List.drop_drop, show at_ - 9 + (at_ - (at_ - 9)) = at_ by omega] at this
    exact this
   rw [e1, dv_append, List.length_drop, B9_ten, show 9 * x3.length = D.length - at_ by omega]
   simp only [pv, Int.mul_zero, Int.add_zero]
   rw [Int.natCast_add, Int.natCast_mul, Int.mul_comm]
   omega
theorem rto_ns (n : Nat) (h : nDigits n ≤ 100000) : Ev (fun k => schismaref03_To.f k (ns n)) (false, pc n) := by
 unfold schismaref03_To.f
 have hp : strings_HasPrefix.f (ns n) (⟨#[45]⟩ : ByteArray) = some false := by
  unfold strings_HasPrefix.f stringslite_HasPrefix.f
  obtain ⟨c, r, e, g1, g2⟩ := head_digit n
  have hs1 : (⟨#[45]⟩ : ByteArray).size = 1 := rfl
  have hn1 := nDigits_pos n
  have h1 : ((ns n).extract 0 (((1 : Nat) : Int)).toNat).toList = [c] := by
   rw [toList_data, extract_data, ns_toList, e]; rfl
  have h2 : (⟨#[45]⟩ : ByteArray).toList = [45] := by rw [toList_data]
  rw [ns_size, hs1, if_pos (by omega), if_pos (by omega), if_pos (by omega), Option.bind_some, h1, h2]
  congr 1
  rw [beq_eq_false_iff_ne]
  intro h
  injection h with h _
  rw [h] at g2
  exact g2 rfl
 refine Ev.bindc hp (Ev.ite_neg (by simp) (Ev.succ ?_))
 simp only [schismaref03_To.j0]
 have hl := decDigits_length n
 have := rto_loop (decDigits n) (dec_isD n) (by omega) (decDigits n).length (ns n) [] (by rw [List.take_length]; rfl) (Nat.le_refl _) okP_nil (by simp) (fun _ => by simp) (by rw [List.drop_length]; rfl)
 rw [dv_dec] at this
 exact this
theorem rof_ev (n : Nat) (h : n ≤ 1000000) : Ev (fun k => schismaref03_Of.f k (n : Int)) (false, pc n) := by
 unfold schismaref03_Of.f
 have h1 : schismaref03_Int.f (n : Int) = some (ns n) := by
  unfold schismaref03_Int.f strconv_Itoa.f
  rw [if_pos ⟨by omega, by omega⟩, Option.bind_some, ← zs_nat]
  rfl
 have hd : nDigits n ≤ 7 := nd_le (by omega) (by decide)
 exact Ev.bindc h1 (Ev.bindr (rto_ns n (by omega)) rfl)
theorem fix_mod (k : Nat) : ∀ n, fix k (n % 10 ^ k) = fix k n := by
 induction k with
 | zero => intro n; rfl
 | succ k ih =>
  intro n
  rw [fix, fix, Nat.pow_succ, Nat.mul_comm, ← ih (n / 10), Nat.mod_mul_right_div_self]
  rw [Nat.mod_mul_right_mod]
theorem fix_add (a b : Nat) : ∀ n, fix (a + b) n = fix a (n / 10 ^ b) ++ fix b n := by
 induction b with
 | zero => intro n; simp [fix]
 | succ b ih =>
  intro n
  rw [show a + (b + 1) = (a + b) + 1 from rfl, fix, ih, fix, Nat.pow_succ, Nat.mul_comm (10 ^ b) 10, ← Nat.div_div_eq_div_mul, List.append_assoc]
theorem repeat48 (k : Nat) : Lib.repeatL [48] k = List.replicate k 48 := by
 induction k with
 | zero => rfl
 | succ k ih => rw [Lib.repeatL, ih, List.replicate_succ]; rfl
theorem rfrom_loop (n : Nat) (hn : n ≠ 0) (hb : nDigits n ≤ 100000) : ∀ (d i : Nat) (s : ByteArray), (pc n).length = i + d → 1 ≤ d → s.data.toList = fix (9 * i) n →
  Ev (fun k => schismaref03_From.l0 k s (i : Int) false (pc n)) (ns n) := by
 have hpl := pc_len_nd (n := n)
 intro d
 induction d with
 | zero => intro i s _ h1; omega
 | succ d ih =>
  intro i s hi _ hs
  have hsz : s.size = 9 * i := by rw [← data_length, hs, fix_length]
  have hpi := pc_getD i n
  have hm9 : n / 10 ^ (9 * i) % 1000000000 < 1000000000 := Nat.mod_lt _ (by decide)
  have hitoa : strconv_Itoa.f (((n / 10 ^ (9 * i) % 1000000000 : Nat)) : Int) = some (ns (n / 10 ^ (9 * i) % 1000000000)) := by
   unfold strconv_Itoa.f
   rw [if_pos ⟨by omega, by omega⟩, ← zs_nat]; rfl
  have hd9 : nDigits (n / 10 ^ (9 * i) % 1000000000) ≤ 9 := nd_le (by omega) (by decide)
  have hd1 := nDigits_pos (n / 10 ^ (9 * i) % 1000000000)
  refine Ev.succ ?_
  simp only [schismaref03_From.l0]
  rw [rd_nat, hpi, w64 (x := (i : Int) + 1) (by omega) (by omega)]
  refine Ev.ite_pos (by omega) (Ev.ite_pos (by omega) (Ev.bindc hitoa ?_))
  rw [ns_size, hsz]
  by_cases hd : d = 0
  ·subst hd
   refine Ev.ite_neg (by omega) (Ev.ite_pos (by omega) (Ev.succ ?_))
   simp only [schismaref03_From.l0]
   refine Ev.ite_neg (by omega) (Ev.ite_neg (by simp) (Ev.val ?_))
   congr 1
   apply bytes_ext
   show (ns (n / 10 ^ (9 * i) % 1000000000)).data.toList ++ s.data.toList = decDigits n
   have hge := pc_ge hn
   have hlt := pc_lt n
   rw [hi] at hge hlt
   rw [show i + (0 + 1) - 1 = i by omega, B9_ten] at hge
   rw [show i + (0 + 1) = i + 1 by omega, B9_ten, Nat.mul_succ, Nat.pow_add] at hlt
   have hq : n / 10 ^ (9 * i) < 1000000000 := by
    rw [Nat.div_lt_iff_lt_mul (Nat.pow_pos (by decide))]
    rw [Nat.mul_comm]
    have : (n : Int) < ((10 ^ (9 * i) * 10 ^ 9 : Nat) : Int) := hlt
    omega
   rw [hs, Nat.mod_eq_of_lt hq, dec_split (9 * i) n (by omega)]
   rfl
  ·have hrep : strings_Repeat.f (⟨#[48]⟩ : ByteArray) (wrap64 (9 - ((nDigits (n / 10 ^ (9 * i) % 1000000000) : Nat) : Int))) = some ⟨(List.replicate (9 - nDigits (n / 10 ^ (9 * i) % 1000000000)) (48 : UInt8)).toArray⟩ := by
    rw [w64 (by omega) (by omega), show (9 : Int) - ((nDigits (n / 10 ^ (9 * i) % 1000000000) : Nat) : Int) = ((9 - nDigits (n / 10 ^ (9 * i) % 1000000000) : Nat) : Int) by omega]
    unfold strings_Repeat.f
    rw [Int.toNat_natCast, if_pos ⟨by omega, by omega, by show 1 * _ ≤ _; omega⟩]
    show some (⟨(Lib.repeatL [48] _).toArray⟩ : ByteArray) = _
    rw [repeat48]
   have hrs : (⟨(List.replicate (9 - nDigits (n / 10 ^ (9 * i) % 1000000000)) (48 : UInt8)).toArray⟩ : ByteArray).size = 9 - nDigits (n / 10 ^ (9 * i) % 1000000000) := by simp [ByteArray.size]
   refine Ev.ite_pos (by omega) (Ev.bindc hrep ?_)
   rw [hrs]
   refine Ev.ite_pos (by omega) (Ev.ite_pos (by omega) (ih (i + 1) _ (by omega) (by omega) ?_))
   show (List.replicate (9 - nDigits (n / 10 ^ (9 * i) % 1000000000)) (48 : UInt8) ++ decDigits (n / 10 ^ (9 * i) % 1000000000)) ++ s.data.toList = _
   have hf := dec_of_fix 9 (n / 10 ^ (9 * i) % 1000000000) (by omega)
   rw [decDigits_length] at hf
   rcases hf with hf | hf
   ·rw [hs, ← hf, show 9 * (i + 1) = 9 + 9 * i by omega, fix_add 9 (9 * i) n]
    congr 1
    exact fix_mod 9 _
   ·omega
theorem rfrom_ev (n : Nat) (hb : nDigits n ≤ 100000) : Ev (fun k => schismaref03_From.f k false (pc n)) (ns n) := by
 unfold schismaref03_From.f
 by_cases hn : n = 0
 ·subst hn
  rw [pc_zero]
  exact Ev.ite_pos rfl (Ev.val (by rw [ns0]))
 ·have hl : (pc n).length ≠ 0 := fun e => hn (pc_length_zero.1 e)
  exact Ev.ite_neg (by omega) (rfrom_loop n hn hb (pc n).length 0 _ (by omega) (by omega) rfl)
theorem rmul_inner (p q : List Int) (hp : okP p) (hq : okP q) (hpl : p.length ≤ 1000000) (hql : q.length ≤ 1000000) (r : Bool × List Int) (i : Nat) (hi : i < p.length) :
  ∀ (d j : Nat) (out : List Int) (c : Int), q.length = j + d → okP out → out.length = p.length + q.length + 1 → 0 ≤ c → c < B9 → out.getD (i + q.length) 0 = 0 →
   (∀ out2 : List Int, okP out2 → out2.length = p.length + q.length + 1 → pv out2 = pv out + B9 ^ (i + j) * (c + p.getD i 0 * pv (q.drop j)) →
    Ev (fun k => schismaref03_MulW.l0 k out2 ((i : Int) + 1) false p false q) r) →
   Ev (fun k => schismaref03_MulW.l1 k out (i : Int) c (j : Int) false p false q) r := by
 obtain ⟨a0, a1⟩ := okP_getD hp i
 intro d
 induction d with
 | zero =>
  intro j out c hj hok hlen hc0 hc htop hk
  obtain rfl : j = q.length := by omega
  have hend : ∀ (out : List Int) (j : Nat), q.length ≤ j → Ev (fun k => schismaref03_MulW.l0 k out ((i : Int) + 1) false p false q) r → Ev (fun k => schismaref03_MulW.l1 k out (i : Int) 0 (j : Int) false p false q) r := fun out j hqj h => by
   refine Ev.succ ?_
   simp only [schismaref03_MulW.l1]
   refine Ev.ite_neg (by omega) (Ev.succ ?_)
   simp only [schismaref03_MulW.j2]
   refine Ev.ite_neg (by simp) ?_
   rw [w64 (by omega) (by omega)]
   exact h
  by_cases hcz0 : c = 0
  ·subst hcz0
   exact hend out _ (Nat.le_refl _) (hk out hok hlen (by rw [List.drop_length]; simp [pv]))
  ·refine Ev.succ ?_
   simp only [schismaref03_MulW.l1]
   rw [decide_eq_true (show c > 0 by omega)]
   refine Ev.ite_neg (by omega) (Ev.succ ?_)
   simp only [schismaref03_MulW.j2]
   rw [w64 (x := (i : Int) + (q.length : Int)) (by omega) (by omega), w64 (x := (q.length : Int) + 1) (by omega) (by omega)]
   refine Ev.ite_pos (by simp) (Ev.ite_pos (by omega) (Ev.ite_pos (by omega) (Ev.ite_neg (by omega) ?_)))
   rw [show (i : Int) + (q.length : Int) = ((i + q.length : Nat) : Int) by omega, rd_nat, Int.toNat_natCast, htop, Int.add_zero, w64 (x := c) (by unfold B9 at *; omega) (by unfold B9 at *; omega)]
   rw [Int.tmod_eq_emod_of_nonneg hc0, Int.tdiv_eq_ediv_of_nonneg hc0, Int.emod_eq_of_lt hc0 hc, Int.ediv_eq_zero_of_lt hc0 hc, w64 (x := 0) (by omega) (by omega)]
   have := hend (out.set (i + q.length) c) (q.length + 1) (by omega) (hk _ (okP_set hok hc0 hc) (by simpa using hlen) (by
    rw [pv_set _ _ _ (by rw [hlen]; omega), htop, List.drop_length]; simp [pv]))
   exact this
 | succ d ih =>
  intro j out c hj hok hlen hc0 hc htop hk
  have e1 : (i : Int) + (j : Int) = ((i + j : Nat) : Int) := by omega
  obtain ⟨o0, o1⟩ := okP_getD hok (i + j)
  have hjq : j < q.length := by omega
  obtain ⟨b0, b1⟩ := okP_getD hq j
  obtain ⟨m0, m1, n0, n1⟩ := step_digit hc0 hc a0 a1 b0 b1 o0 o1
  refine Ev.succ ?_
  simp only [schismaref03_MulW.l1]
  refine Ev.ite_pos (by omega) (Ev.succ ?_)
  simp only [schismaref03_MulW.j2]
  rw [w64 (x := (i : Int) + (j : Int)) (by omega) (by omega), w64 (x := (j : Int) + 1) (by omega) (by omega)]
  refine Ev.ite_pos (by simp) (Ev.ite_pos (by omega) (Ev.ite_pos (by omega) (Ev.ite_pos (by omega) (Ev.ite_pos (by omega) (Ev.ite_pos (by omega) (Ev.ite_pos (by omega) ?_))))))
  rw [e1, rd_nat, rd_nat, rd_nat, Int.toNat_natCast]
  have hpvd := pv_drop q j hjq
  generalize p.getD i 0 = a at *
  generalize hb : q.getD j 0 = b at *
  generalize ho : out.getD (i + j) 0 = o at *
  rw [w64 (x := a * b) (by omega) (by omega), w64 (x := c + o) (by unfold B9 at *; omega) (by unfold B9 at *; omega), w64 (x := c + o + a * b) (by unfold B9 at *; omega) (by unfold B9 at *; omega)]
  rw [show c + o + a * b = c + (o + a * b) by omega, Int.tmod_eq_emod_of_nonneg (by omega), Int.tdiv_eq_ediv_of_nonneg (by omega)]
  have hdm := Int.emod_add_mul_ediv (c + (o + a * b)) 1000000000
  have hm0 : 0 ≤ (c + (o + a * b)) % 1000000000 := Int.emod_nonneg _ (by decide)
  have hm1 : (c + (o + a * b)) % 1000000000 < 1000000000 := Int.emod_lt_of_pos _ (by decide)
  rw [w64 (x := (c + (o + a * b)) / 1000000000) (by unfold B9 at *; omega) (by unfold B9 at *; omega)]
  generalize (c + (o + a * b)) % 1000000000 = u at *
  generalize hv : (c + (o + a * b)) / 1000000000 = v at *
  have n0' : 0 ≤ v := by unfold B9 at *; omega
  have n1' : v < B9 := by unfold B9 at *; omega
  refine ih (j + 1) (out.set (i + j) u) v (by omega) (okP_set hok hm0 hm1) (by simpa using hlen) n0' n1' (by rw [getD_set_ne _ _ _ _ (by omega)]; exact htop) (fun out2 h1 h2 h3 => hk out2 h1 h2 ?_)
  rw [h3, pv_set _ _ _ (by rw [hlen]; omega), ho, hpvd, show i + (j + 1) = i + j + 1 from rfl, B9_succ]
  generalize B9 ^ (i + j) = X
  generalize pv (q.drop (j + 1)) = Z
  have hu : u = c + (o + a * b) - B9 * v := by unfold B9; omega
  subst hu
  have : X * (c + (o + a * b) - B9 * v - o) + X * B9 * (v + a * Z) = X * (c + a * (b + B9 * Z)) := by grind
  omega
theorem rmul_outer (p q : List Int) (hp : okP p) (hq : okP q) (hpl : p.length ≤ 1000000) (hql : q.length ≤ 1000000) :
  ∀ (d i : Nat) (out : List Int), p.length = i + d → okP out → out.length = p.length + q.length + 1 → pv out = pv (p.take i) * pv q →
   Ev (fun k => schismaref03_MulW.l0 k out (i : Int) false p false q) (false, pc (pv p * pv q).toNat) := by
 intro d
 induction d with
 | zero =>
  intro i out hi hok hlen hv
  refine Ev.succ ?_
  simp only [schismaref03_MulW.l0]
  refine Ev.ite_neg (by omega) ?_
  rw [bne_self_eq_false]
  refine Ev.bindr (rtrim_pc hok (by omega)) ?_
  rw [hv, List.take_of_length_le (by omega)]
 | succ d ih =>
  intro i out hi hok hlen hv
  refine Ev.succ ?_
  simp only [schismaref03_MulW.l0]
  refine Ev.ite_pos (by omega) ?_
  have hlt : pv out < B9 ^ (i + q.length) := by
   rw [hv, B9_add]
   have h4 : pv (p.take i) < B9 ^ i := by
    have := pv_lt (okP_take hp i)
    rwa [List.length_take, Nat.min_eq_left (by omega)] at this
   have h5 := pv_lt hq
   have h6 : pv (p.take i) * pv q ≤ pv (p.take i) * B9 ^ q.length := Int.mul_le_mul_of_nonneg_left (Int.le_of_lt h5) (pv_nonneg (okP_take hp i))
   exact Int.lt_of_le_of_lt h6 (Int.mul_lt_mul_of_pos_right h4 (B9_pos _))
  refine rmul_inner p q hp hq hpl hql _ i (by omega) q.length 0 out 0 (by omega) hok hlen (Int.le_refl _) (by decide) (zero_above hok hlt) (fun out2 h1 h2 h3 => ?_)
  refine ih (i + 1) out2 (by omega) h1 h2 ?_
  rw [h3, pv_take_succ p i (by omega), hv]
  simp only [Nat.add_zero, List.drop_zero, Int.zero_add, Int.add_mul]
  rw [Int.mul_assoc]
theorem rmul_pc (a b : Nat) (ha : (pc a).length ≤ 1000000) (hb : (pc b).length ≤ 1000000) : Ev (fun k => schismaref03_MulW.f k false (pc a) false (pc b)) (false, pc (a * b)) := by
 unfold schismaref03_MulW.f
 rw [w64 (x := ((pc a).length : Int) + ((pc b).length : Int)) (by omega) (by omega), w64 (by omega) (by omega)]
 refine Ev.ite_pos (by omega) (Ev.ite_pos (by omega) ?_)
 have e1 : (((pc a).length : Int) + ((pc b).length : Int) + 1).toNat = (pc a).length + (pc b).length + 1 := by omega
 rw [e1]
 have := rmul_outer (pc a) (pc b) (pc_ok a) (pc_ok b) ha hb (pc a).length 0 (List.replicate ((pc a).length + (pc b).length + 1) 0) (by omega) (okP_replicate _) (by simp) (by simp [pv_replicate, pv])
 rw [pv_pc, pv_pc, ← Int.natCast_mul, Int.toNat_natCast] at this
 exact this
theorem rpower_loop (T : Nat) (hT : (pc T).length ≤ 1000000) (U : Nat) (hU : (pc U).length ≤ 1000000) : ∀ (n x y : Nat), n < 1000000 → 1 ≤ y → x * y ^ n = T → y ^ (2 * n) ≤ U → 1 ≤ x →
  Ev (fun k => schismalaw11_power.l0 k (n : Int) false (pc x) false (pc y)) (false, pc T) := by
 intro n
 induction n using Nat.strongRecOn with
 | _ n ih =>
  intro x y hn hy hx hu hx1
  refine Ev.succ ?_
  simp only [schismalaw11_power.l0]
  by_cases h0 : n = 0
  ·subst h0
   refine Ev.ite_neg (by omega) (Ev.val ?_)
   rw [Nat.pow_zero, Nat.mul_one] at hx
   rw [hx]
  ·have e2 : Int.tmod (n : Int) 2 = ((n % 2 : Nat) : Int) := by rw [Int.tmod_eq_emod_of_nonneg (by omega)]; rfl
   have e3 : Int.tdiv (n : Int) 2 = ((n / 2 : Nat) : Int) := by rw [Int.tdiv_eq_ediv_of_nonneg (by omega)]; rfl
   rw [e2, e3, w64 (by omega) (by omega)]
   have hyy : y * y ≤ y ^ (2 * n) := by
    have := Nat.pow_le_pow_right hy (show 2 ≤ 2 * n by omega)
    rw [Nat.pow_two] at this; exact this
   have hy1 : y ≤ y * y := Nat.le_mul_of_pos_left _ hy
   have hly : (pc y).length ≤ 1000000 := Nat.le_trans (pc_len_mono (Nat.le_trans hy1 (Nat.le_trans hyy hu))) hU
   have hlx : (pc x).length ≤ 1000000 := Nat.le_trans (pc_len_mono (by rw [← hx]; exact Nat.le_mul_of_pos_right _ (Nat.pow_pos hy))) hT
   have hsq := rmul_pc y y hly hly
   have hpow : (y * y) ^ (n / 2) * y ^ (n % 2) = y ^ n := by
    rw [← Nat.pow_two, ← Nat.pow_mul, ← Nat.pow_add]; congr 1; omega
   have hnext : (y * y) ^ (2 * (n / 2)) ≤ U := by
    rw [← Nat.pow_two, ← Nat.pow_mul]
    exact Nat.le_trans (Nat.pow_le_pow_right hy (by omega)) hu
   by_cases h1 : n % 2 = 1
   ·refine Ev.ite_pos (by omega) (Ev.ite_pos (by omega) (Ev.bind (rmul_pc x y hlx hly) (Ev.bind hsq ?_)))
    refine ih (n / 2) (by omega) (x * y) (y * y) (by omega) (Nat.mul_pos hy hy) ?_ hnext (Nat.mul_pos hx1 hy)
    rw [← hx, ← hpow, h1, Nat.pow_one]
    simp only [Nat.mul_assoc, Nat.mul_left_comm, Nat.mul_comm]
   ·refine Ev.ite_pos (by omega) (Ev.ite_neg (by omega) (Ev.bind hsq ?_))
    refine ih (n / 2) (by omega) x (y * y) (by omega) (Nat.mul_pos hy hy) ?_ hnext hx1
    rw [← hx, ← hpow, show n % 2 = 0 by omega, Nat.pow_zero, Nat.mul_one]
theorem rpower_ev (p e : Nat) (h1 : 1 ≤ p) (h2 : p ≤ 97) (he : e ≤ 1300) : Ev (fun k => schismalaw11_power.f k (p : Int) (e : Int)) (false, pc (p ^ e)) := by
 unfold schismalaw11_power.f
 have hb : ∀ n, n ≤ 2600 → (pc (p ^ n)).length ≤ 1000000 := fun n hn => by
  have := pc_len_nd (n := p ^ n)
  have := nd_pow p n
  have : nDigits p ≤ 2 := nd_le (by omega) (by decide)
  have := Nat.mul_le_mul hn this
  omega
 have h1e : Ev (fun k => schismaref03_Of.f k 1) (false, pc 1) := rof_ev 1 (by omega)
 refine Ev.bind h1e (Ev.bind (rof_ev p (by omega)) ?_)
 exact rpower_loop (p ^ e) (hb e (by omega)) (p ^ (2 * e)) (hb (2 * e) (by omega)) e 1 p (by omega) h1 (by rw [Nat.one_mul]) (Nat.le_refl _) (by omega)
end Go.Proofs.YtccebdpjdpjgnaaGreatDoor.Q
