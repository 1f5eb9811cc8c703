/-
parts of the walks and of the plain laws: ExtSplit Pprimeevery ExtFirst Pprimedivide Pprimefactor Pprimeopen ExtFar
-/
import Derived.Lib.Split
import Derived.Test.YtccebdpjdpjgnaaGreatDoorJN27
set_option linter.unusedVariables false
set_option linter.unusedSimpArgs false
section
namespace Go.Proofs.YtccebdpjdpjgnaaGreatDoor.P
open Go.RowKit Go.Proofs.YtccebdpjdpjgnaaGreatDoorW.PrintWords Go.Proofs.YtccebdpjdpjgnaaGreatDoorW.PrintLast Go.Proofs.YtccebdpjdpjgnaaGreatDoorW.PrintMore
def strings_Split.f (a0 a1 : ByteArray) : Option (List ByteArray) := if a0.size < 4294967281 ∧ 1 ≤ a1.size then some (Lib.splitB a1 0 (Lib.countB a0 a1) a0) else none
theorem strings_Split.calls (a0 a1 : ByteArray) (r : List ByteArray) (w : World) (hT : TabW w) (h : strings_Split.f a0 a1 = some r) :
  Calls Tryz.prog 132 #[.string a0, .string a1] w fun e w' => ∃ v0_ : Value, e = .returned (v0_) ∧ Kd.R Kd.string 9 w' w.heap.size (fun _ => True) v0_ r ∧ Below w.heap.size w w' := by
 unfold strings_Split.f at h
 split at h
 ·next hb =>
  injection h with h
  subst h
  obtain ⟨_, _, _, m, hm⟩ := hT
  have hle := Lib.countB_le a1 hb.2 a0.size a0 (Nat.le_refl _)
  have hlen := Lib.splitB_all a1 hb.2 0 _ a0 rfl
  refine (Tryz.strings_Split a0 a1 m w hb.1 hm hb.2).mono ?_
  rintro e w' ⟨rfl, rfl⟩
  refine ⟨_, rfl, ?_, below_alloc (Below.refl _ _) _⟩
  have hb1 := hb.1
  clear hm hb
  generalize Lib.splitB a1 0 (Lib.countB a0 a1) a0 = xs at *
  generalize Lib.countB a0 a1 = n at *
  refine Kd.R_of_own (enc := Value.string) ⟨by simp [encs], .inr ⟨w.heap.size, n + 1, (xs.map Value.string).toArray, by rw [hlen], Nat.le_refl _, ?_, by omega, by unfold maxLen; omega, by simp [hlen], ?_⟩⟩ (fun _ _ => trivial)
  ·show (w.heap.push _)[w.heap.size]? = _
   exact Array.getElem?_push_size
  ·rw [List.take_of_length_le (by simp)]
   rfl
 ·cases h
end Go.Proofs.YtccebdpjdpjgnaaGreatDoor.P
end
section
namespace Go.Proofs.YtccebdpjdpjgnaaGreatDoor.P
open Go.RowKit Go.Proofs.YtccebdpjdpjgnaaGreatDoorW.PrintWords Go.Proofs.YtccebdpjdpjgnaaGreatDoorW.PrintLast Go.Proofs.YtccebdpjdpjgnaaGreatDoorW.PrintMore
attribute [local go_sem] max2_int min2_int max_two min_two max_three min_three max_four min_four
def prime_every.l0 : Nat → List Int → List ByteArray → Int → Int → Option (List Int)
 | 0, _, _, _, _ => none
 | k + 1, x1, x6, x7, x8 => if x8 < x7 then (if 0 ≤ x8 then (if x8 < (x6.length : Int) then ((strconv_Atoi.f (rdOf ByteArray.empty x6 x8)).bind fun bt1721 => (if x1.length < 17592186044416 then (prime_every.l0 k (x1 ++ [bt1721.1]) x6 x7 (wrap64 (x8 + 1))) else (none))) else (none)) else (none)) else (some x1)
def prime_every.f (k : Nat)  : Option (List Int) := (strings_Split.f (⟨#[50, 46, 51, 46, 53, 46, 55, 46, 49, 49, 46, 49, 51, 46, 49, 55, 46, 49, 57, 46, 50, 51, 46, 50, 57, 46, 51, 49, 46, 51, 55, 46, 52, 49, 46, 52, 51, 46, 52, 55, 46, 53, 51, 46, 53, 57, 46, 54, 49, 46, 54, 55, 46, 55, 49, 46, 55, 51, 46, 55, 57, 46, 56, 51, 46, 56, 57, 46, 57, 55]⟩ : ByteArray) (⟨#[46]⟩ : ByteArray)).bind fun t1717 => (prime_every.l0 k ([] : List Int) t1717 (t1717.length : Int) 0)
theorem prime_every.mono_l : ∀ k, (∀ y0 y1 y2 y3, LeO (prime_every.l0 k y0 y1 y2 y3) (prime_every.l0 (k + 1) y0 y1 y2 y3))
 | 0 => fun _ _ _ _ r h => by simp [prime_every.l0] at h
 | k + 1 => by
  have ih0 := prime_every.mono_l k
  ·intro y0 y1 y2 y3
   unfold prime_every.l0
   repeat' first
   | (with_reducible exact ih0 _ _ _ _)
   | (with_reducible exact LeO.refl _)
   | (with_reducible exact LeO.none _)
   | (with_reducible refine LeO.ite ?_ ?_)
   | (with_reducible refine LeO.bind ?_ (fun _ => ?_))
theorem prime_every.mono : ∀ k, LeO (prime_every.f k ) (prime_every.f (k + 1) ) := by
 intro  k
 have ih0 := prime_every.mono_l k
 unfold prime_every.f
 repeat' first
   | (with_reducible exact ih0 _ _ _ _)
   | (with_reducible exact LeO.refl _)
   | (with_reducible exact LeO.none _)
   | (with_reducible refine LeO.ite ?_ ?_)
   | (with_reducible refine LeO.bind ?_ (fun _ => ?_))
set_option maxHeartbeats 8000000 in
set_option maxRecDepth 100000 in
theorem prime_every.calls (k : Nat)  (r : List Int) (w : World) (hT : TabW w) (h : prime_every.f k  = some r) :
  Calls Tryz.prog 124 #[] w fun e w' => ∃ v0_ : Value, e = .returned (v0_) ∧ Kd.R (Kd.int .i64) 3 w' w.heap.size (fun _ => True) v0_ r ∧ Below w.heap.size w w' := by
 have HB := Aside0.mk (Below.refl w.heap.size w)
 have H : ((strings_Split.f (⟨#[50, 46, 51, 46, 53, 46, 55, 46, 49, 49, 46, 49, 51, 46, 49, 55, 46, 49, 57, 46, 50, 51, 46, 50, 57, 46, 51, 49, 46, 51, 55, 46, 52, 49, 46, 52, 51, 46, 52, 55, 46, 53, 51, 46, 53, 57, 46, 54, 49, 46, 54, 55, 46, 55, 49, 46, 55, 51, 46, 55, 57, 46, 56, 51, 46, 56, 57, 46, 57, 55]⟩ : ByteArray) (⟨#[46]⟩ : ByteArray)).bind fun t1717 => (prime_every.l0 k ([] : List Int) t1717 (t1717.length : Int) 0)) = some r := h
 clear h
 replace H := Option.bind_eq_some_iff.mp H
 obtain ⟨t1717, A10, H⟩ := H
 try dsimp only at H
 have A1 := Aside0.mk A10
 clear A10
 have H' := Aside0.mk H
 clear H
 go_enter Tryz.func124, Tryz.ntmps124
 go_wp2_with (first | ((with_reducible refine gate_callee (f := 132) rfl ?_); refine goesK (some 6) Tryz.func132 [.string (⟨#[50, 46, 51, 46, 53, 46, 55, 46, 49, 49, 46, 49, 51, 46, 49, 55, 46, 49, 57, 46, 50, 51, 46, 50, 57, 46, 51, 49, 46, 51, 55, 46, 52, 49, 46, 52, 51, 46, 52, 55, 46, 53, 51, 46, 53, 57, 46, 54, 49, 46, 54, 55, 46, 55, 49, 46, 55, 51, 46, 55, 57, 46, 56, 51, 46, 56, 57, 46, 57, 55]⟩ : ByteArray), .string (⟨#[46]⟩ : ByteArray)] rfl rfl ?_; (with_reducible refine (strings_Split.calls (⟨#[50, 46, 51, 46, 53, 46, 55, 46, 49, 49, 46, 49, 51, 46, 49, 55, 46, 49, 57, 46, 50, 51, 46, 50, 57, 46, 51, 49, 46, 51, 55, 46, 52, 49, 46, 52, 51, 46, 52, 55, 46, 53, 51, 46, 53, 57, 46, 54, 49, 46, 54, 55, 46, 55, 49, 46, 55, 51, 46, 55, 57, 46, 56, 51, 46, 56, 57, 46, 57, 55]⟩ : ByteArray) (⟨#[46]⟩ : ByteArray) t1717 _ ?side1 A1.out).mono ?_); (case side1 => refine TabW.below hT ?_; apply_rules [HB.out, below_alloc, pw_below_drewN, below_drew1]); rintro e w2 ⟨v1718, rfl, ho0, hb⟩; refine ⟨_, rfl, ?_⟩; have HO1719 := Aside0.mk (Kd.R_lower ho0 (below_size (by apply_rules [HB.out, below_alloc, pw_below_drewN, below_drew1]))); replace HB := Aside0.mk (below_step (by apply_rules [HB.out, below_alloc, pw_below_drewN, below_drew1]) hb); (try clear hb); (try clear ho0); obtain ⟨Ao3, co3, eo3⟩ := Kd.R_slice HO1719.out; subst eo3))
 go_loopg [1, 8] k (fun kq v1 v8 w' => ∃ (x1_1 : List Int) (x8_1 : Int), v8 = .int .i64 x8_1 ∧ Aside0 (prime_every.l0 kq x1_1 t1717 (t1717.length : Int) x8_1 = some r) ∧ Aside0 (kq ≤ k) ∧ Aside0 (Kd.R (Kd.int .i64) 3 w' w.heap.size (fun _ => True) v1 x1_1) ∧ Aside0 (Kd.R Kd.string 9 w' w.heap.size (fun _ => True) (.slice Ao3 t1717.length co3) t1717) ∧ Aside0 (Below w.heap.size w w'))
 case atStart => exact ⟨(([] : List Int)), (0), (by first | rfl | (simp; done) | (simp [*]; done)), H', ⟨Nat.le_refl _⟩, ⟨by first | exact Kd.R_nil _ _ _ _ _ | exact Kd.N_nil _ _ _ _ _ | exact Kd.V_nil _ _ _ _ _ | exact Kd.Q_nil _ _ _ _ _ | exact Kd.S_nil _ _ _ _ _⟩, ⟨by apply_rules [HO1719.out, Kd.R_alloc, Kd.R_drewN, Kd.R_drew]⟩, ⟨by apply_rules [HB.out, below_alloc, pw_below_drewN, below_drew1]⟩⟩
 case round =>
  clear H'
  obtain ⟨x1_1, x8_1, rfl, HA, HK1, HO_1, HO_6, HB⟩ := hrel
  cases gk with
  | zero => exact absurd HA.out (by simp [prime_every.l0])
  | succ k1 =>
   have H := HA.out
   clear HA
   simp only [prime_every.l0] at H
   by_cases c4 : x8_1 < (t1717.length : Int)
   ·rw [if_pos c4] at H
    have c4b0 : decide (x8_1 < (t1717.length : Int)) = true := decide_eq_true c4
    clear c4
    by_cases c5 : 0 ≤ x8_1
    case neg => rw [if_neg c5] at H; exact absurd H (by simp)
    rw [if_pos c5] at H
    have c5b0 : decide (0 ≤ x8_1) = true := decide_eq_true c5
    clear c5
    by_cases c6 : x8_1 < (t1717.length : Int)
    case neg => rw [if_neg c6] at H; exact absurd H (by simp)
    rw [if_pos c6] at H
    have c6b0 : decide (x8_1 < (t1717.length : Int)) = true := decide_eq_true c6
    clear c6
    replace H := Option.bind_eq_some_iff.mp H
    obtain ⟨⟨t1721, t1722⟩, A70, H⟩ := H
    try dsimp only at H
    have A7 := Aside0.mk A70
    clear A70
    by_cases c8 : x1_1.length < 17592186044416
    case neg => rw [if_neg c8] at H; exact absurd H (by simp)
    rw [if_pos c8] at H
    have LMc8 := Aside0.mk c8
    clear c8
    obtain ⟨y1723, hy1723⟩ : ∃ y_ : List Int, y_ = (x1_1 ++ [t1721]) := ⟨_, rfl⟩
    replace H : (prime_every.l0 k1 y1723 t1717 (t1717.length : Int) (wrap64 (x8_1 + 1))) = some r := by first | (rw [hy1723]; with_reducible exact H) | (have H2_ := (Option.bind_some _ _).symm.trans H; rw [hy1723]; with_reducible exact H2_) | (have H2_ := (Option.bind_some _ _).symm.trans H; with_reducible exact H2_) | with_reducible exact H | (rw [hy1723]; exact H) | exact H
    have Ny1723 := Aside0.mk hy1723
    clear hy1723
    have H' := Aside0.mk H
    clear H
    have p1720 : 0 ≤ (x8_1 : Int) := of_decide_eq_true (by assumption)
    have q1720 : x8_1 < (t1717.length : Int) := of_decide_eq_true (by assumption)
    obtain ⟨ad1720, e1720, hx1720_0⟩ := Kd.at_string (Kd.R_reads' HO_6.out).2.2 x8_1 p1720 q1720
    cases e1720
    replace p1720 := eq_true p1720
    replace q1720 := eq_true q1720
    go_wp2_with (first | ((with_reducible refine gate_callee (f := 133) rfl ?_); refine goesK (some 14) Tryz.func133 [.string (rdOf ByteArray.empty t1717 x8_1)] rfl rfl ?_; (with_reducible refine (strconv_Atoi.calls (rdOf ByteArray.empty t1717 x8_1) t1721 t1722 _ ?side1 A7.out).mono ?_); (case side1 => refine TabW.below hT ?_; apply_rules [HB.out, below_alloc, pw_below_drewN, below_drew1]); rintro e w9 ⟨ex_, rfl, hx_, hb⟩; refine ⟨_, rfl, ?_⟩; replace HO_1 := Aside0.mk (Kd.R_below (by apply_rules [HO_1.out, Kd.R_alloc, Kd.R_drewN, Kd.R_drew]) hb); replace HO_6 := Aside0.mk (Kd.R_below (by apply_rules [HO_6.out, Kd.R_alloc, Kd.R_drewN, Kd.R_drew]) hb); replace HB := Aside0.mk (below_step (by apply_rules [HB.out, below_alloc, pw_below_drewN, below_drew1]) hb); (try clear hb); (first | (have hx2_ := errIs_none hx_; clear hx_; subst hx2_) | (obtain ⟨qx_, hx2_⟩ := errIs_some hx_; clear hx_; subst hx2_) | skip)) | ((with_reducible refine gate_builtin (b := .append) (xs := #[.tmp 17, .tmp 19]) rfl ?_); at_builtin; refine Kd.R_append (Kd.int .i64) (w0 := w) w.heap.size rfl (.tmp 17) (.tmp 19) 23 3 (.int .i64 0) 8 rfl Tryz.underlying23 info3 rfl (by decide) (by omega) u1 x1_1 t1721 [.int .i64 t1721] (fun _ => True) (fun _ => False) rfl rfl ?aP (fun _ hk => hk.elim) ?aF ?aO ?aB ?aS ?aL ?_; (case aP => exact rfl); (case aB => exact (by apply_rules [HB.out, below_alloc, pw_below_drewN, below_drew1])); (case aF => exact (fun _ _ => trivial)); (case aO => exact (by apply_rules [HO_1.out, Kd.R_alloc, Kd.R_drewN, Kd.R_drew])); (case aS => exact (below_size (by apply_rules [HB.out, below_alloc, pw_below_drewN, below_drew1]))); (case aL => have := LMc8.out; omega); intro v1724 w10 ho hb hg hat; rw [← Ny1723.out] at ho; replace HO_6 := Aside0.mk (Kd.R_over' (by apply_rules [HO_6.out, Kd.R_alloc, Kd.R_drewN, Kd.R_drew]) (Kd.R_typed (by apply_rules [HO_1.out, Kd.R_alloc, Kd.R_drewN, Kd.R_drew])) (by decide) hg); replace HB := Aside0.mk (hb); have HO1725 := Aside0.mk (ho); clear HO_1; clear ho hb hg hat))
    go_roundg k1
    case measure => have := HK1.out; omega
    case rel => exact ⟨(y1723), (wrap64 (x8_1 + 1)), (by first | rfl | (simp; done) | (simp [*]; done)), H', ⟨by have := HK1.out; omega⟩, ⟨by apply_rules [HO1725.out, Kd.R_alloc, Kd.R_drewN, Kd.R_drew]⟩, ⟨by apply_rules [HO_6.out, Kd.R_alloc, Kd.R_drewN, Kd.R_drew]⟩, ⟨by apply_rules [HB.out, below_alloc, pw_below_drewN, below_drew1]⟩⟩
   ·rw [if_neg c4] at H
    have c4b0 : decide (x8_1 < (t1717.length : Int)) = false := decide_eq_false c4
    clear c4
    obtain rfl := Option.some.inj H
    go_wp2
    go_ret
    exact ⟨_, by first | rfl | simp [*], by (with_reducible repeat (first | apply Kd.R_alloc | apply Kd.R_drewN | apply Kd.R_drew)); exact HO_1.out, by apply_rules [HB.out, below_alloc, pw_below_drewN, below_drew1]⟩
end Go.Proofs.YtccebdpjdpjgnaaGreatDoor.P
end
section
namespace Go.Proofs.YtccebdpjdpjgnaaGreatDoor.P
open Go.RowKit Go.Proofs.YtccebdpjdpjgnaaGreatDoorW.PrintWords Go.Proofs.YtccebdpjdpjgnaaGreatDoorW.PrintLast Go.Proofs.YtccebdpjdpjgnaaGreatDoorW.PrintMore
def prime_First.f (k : Nat) (a0 : Int) : Option (List Int × Int) := if a0 < 1 ∨ a0 > 6 then some ([], 3) else (prime_every.f k).bind fun l => if a0.toNat ≤ l.length then some (l.take a0.toNat, 0) else none
set_option maxHeartbeats 1000000 in
theorem prime_First.calls (k : Nat) (a0 : Int) (r1 : List Int) (r2 : Int) (w : World) (hT : TabW w) (h : prime_First.f k a0 = some (r1, r2)) :
  Calls Tryz.prog 62 #[.int .i64 a0] w fun e w' => ∃ v0_ : Value, e = .returned (.tuple #[v0_, .int .i64 r2]) ∧ Kd.V (Kd.int .i64) 3 w' w.heap.size (fun k_ => w.heap.size ≤ k_) v0_ r1 ∧ Below w.heap.size w w' := by
 unfold prime_First.f at h
 have hb0 := Below.refl w.heap.size w
 by_cases h1 : a0 < 1
 ·rw [if_pos (.inl h1)] at h
  simp only [Option.some.injEq, Prod.mk.injEq] at h
  obtain ⟨rfl, rfl⟩ := h
  go_enter Tryz.func62, Tryz.ntmps62
  go_wp2_with fail
  go_ret2
  exact ⟨_, rfl, Kd.V_nil _ _ _ _ _, by repeat (first | (with_reducible first | exact hb0 | apply below_alloc | apply pw_below_drewN | apply below_drew1) | exact hb0)⟩
 ·by_cases h2 : a0 > 6
  ·rw [if_pos (.inr h2)] at h
   simp only [Option.some.injEq, Prod.mk.injEq] at h
   obtain ⟨rfl, rfl⟩ := h
   have d2 : (6 : Int) < a0 := h2
   go_enter Tryz.func62, Tryz.ntmps62
   go_wp2_with fail
   go_ret2
   exact ⟨_, rfl, Kd.V_nil _ _ _ _ _, by repeat (first | (with_reducible first | exact hb0 | apply below_alloc | apply pw_below_drewN | apply below_drew1) | exact hb0)⟩
  ·rw [if_neg (fun e => e.elim h1 h2)] at h
   obtain ⟨l, hl, h⟩ := Option.bind_eq_some_iff.mp h
   by_cases hz : a0.toNat ≤ l.length
   ·rw [if_pos hz] at h
    simp only [Option.some.injEq, Prod.mk.injEq] at h
    obtain ⟨rfl, rfl⟩ := h
    have d2 : ¬ (6 : Int) < a0 := h2
    go_enter Tryz.func62, Tryz.ntmps62
    go_wp2_with fail
    refine (prime_every.calls k l _ hT hl).mono ?_
    rintro e w1 ⟨v0, rfl, hR, hb1⟩
    obtain ⟨ad, c, rfl⟩ := Kd.R_slice1 hR (by omega)
    obtain ⟨_, hc, _⟩ := Kd.R_reads' hR
    have hF := Kd.F_take (Kd.R_F (Kd.R_mono (Kd.R_bound hR) (fun k_ hk => hk.2.1))) hz
    obtain ⟨n, rfl⟩ := Int.eq_ofNat_of_zero_le (show 0 ≤ a0 by omega)
    rw [Int.toNat_natCast] at hz hF
    have d3 : (n : Int) ≤ (c : Int) := by omega
    clear hR hl
    go_wp2_with fail
    go_ret2
    refine ⟨_, rfl, ?_, by repeat (first | (with_reducible first | exact hb1 | apply below_alloc | apply pw_below_drewN | apply below_drew1) | exact hb1)⟩
    have hl2 : (l.take n).length = n := by rw [List.length_take]; omega
    have hV := Kd.V_mk (e := 3) (base := w.heap.size) (Nat.le_refl (l.take n).length) hF
    rw [hl2] at hV
    exact hV
   ·rw [if_neg hz] at h; cases h
end Go.Proofs.YtccebdpjdpjgnaaGreatDoor.P
end
section
namespace Go.Proofs.YtccebdpjdpjgnaaGreatDoor.P
open Go.RowKit Go.Proofs.YtccebdpjdpjgnaaGreatDoorW.PrintWords Go.Proofs.YtccebdpjdpjgnaaGreatDoorW.PrintLast Go.Proofs.YtccebdpjdpjgnaaGreatDoorW.PrintMore
attribute [local go_sem] max2_int min2_int max_two min_two max_three min_three max_four min_four
def prime_divide.l0 : Nat → ByteArray → ByteArray → Int → Option (ByteArray × Int)
 | 0, _, _, _ => none
 | k + 1, x0, x6, x7 => (whole_DivMod.f k x0 x6).bind fun bt1036 => (if bt1036.2.1.toList = ([48] : List UInt8) then (if bt1036.2.2 = 0 then (prime_divide.l0 k bt1036.1 x6 (wrap64 (x7 + 1))) else (some (x0, x7))) else (some (x0, x7)))
def prime_divide.f (k : Nat) (a0 : ByteArray) (a1 : Int) : Option (ByteArray × Int) := (whole_Of.f a1).bind fun t1035 => (prime_divide.l0 k a0 t1035 0)
set_option maxHeartbeats 8000000 in
set_option maxRecDepth 100000 in
theorem prime_divide.calls (k : Nat) (a0 : ByteArray) (a1 : Int) (r1 : ByteArray) (r2 : Int) (w : World) (hT : TabW w) (h : prime_divide.f k a0 a1 = some (r1, r2)) :
  Calls Tryz.prog 187 #[.string a0, .int .i64 a1] w fun e w' => e = .returned (.tuple #[.string r1, .int .i64 r2]) ∧ Below w.heap.size w w' := by
 have HB := Aside0.mk (Below.refl w.heap.size w)
 have H : ((whole_Of.f a1).bind fun t1035 => (prime_divide.l0 k a0 t1035 0)) = some (r1, r2) := h
 clear h
 replace H := Option.bind_eq_some_iff.mp H
 obtain ⟨t1035, A30, H⟩ := H
 try dsimp only at H
 have A3 := Aside0.mk A30
 clear A30
 have H' := Aside0.mk H
 clear H
 go_enter Tryz.func187, Tryz.ntmps187
 go_wp2_with (first | ((with_reducible refine gate_callee (f := 104) rfl ?_); refine goesK (some 12) Tryz.func104 [.int .i64 a1] rfl rfl ?_; (with_reducible refine (whole_Of.calls a1 t1035 _ ?side1 A3.out).mono ?_); (case side1 => refine TabW.below hT ?_; apply_rules [HB.out, below_alloc, pw_below_drewN, below_drew1]); rintro e w4 ⟨rfl, hb⟩; refine ⟨_, rfl, ?_⟩; replace HB := Aside0.mk (below_step (by apply_rules [HB.out, below_alloc, pw_below_drewN, below_drew1]) hb); (try clear hb)))
 go_loopg [0, 7] k (fun kq v0 v7 w' => ∃ (x0_1 : ByteArray) (x7_1 : Int), v0 = .string x0_1 ∧ v7 = .int .i64 x7_1 ∧ Aside0 (prime_divide.l0 kq x0_1 t1035 x7_1 = some (r1, r2)) ∧ Aside0 (kq ≤ k) ∧ Aside0 (Below w.heap.size w w'))
 case atStart => exact ⟨(a0), (0), (by first | rfl | (simp; done) | (simp [*]; done)), (by first | rfl | (simp; done) | (simp [*]; done)), H', ⟨Nat.le_refl _⟩, ⟨by apply_rules [HB.out, below_alloc, pw_below_drewN, below_drew1]⟩⟩
 case round =>
  clear H'
  obtain ⟨x0_1, x7_1, rfl, rfl, HA, HK1, HB⟩ := hrel
  cases gk with
  | zero => exact absurd HA.out (by simp [prime_divide.l0])
  | succ k1 =>
   have H := HA.out
   clear HA
   simp only [prime_divide.l0] at H
   replace H := Option.bind_eq_some_iff.mp H
   obtain ⟨⟨t1036, t1037, t1038⟩, A50, H⟩ := H
   try dsimp only at H
   have A5 := Aside0.mk A50
   clear A50
   by_cases c6 : t1037.toList = ([48] : List UInt8)
   ·rw [if_pos c6] at H
    have c6b0 : (t1037.toList == ([48] : List UInt8)) = true := beq_iff_eq.mpr c6
    have c6b1 : (t1037.toList != ([48] : List UInt8)) = false := bne_eq_false_iff_eq.mpr c6
    clear c6
    by_cases c7 : t1038 = 0
    ·rw [if_pos c7] at H
     have c7b0 : (t1038 == 0) = true := beq_iff_eq.mpr c7
     have c7b1 : (t1038 != 0) = false := bne_eq_false_iff_eq.mpr c7
     clear c7
     have H' := Aside0.mk H
     clear H
     go_wp2_with (first | ((with_reducible refine gate_callee (f := 122) rfl ?_); refine goesK (some 18) Tryz.func122 [.string x0_1, .string t1035] rfl rfl ?_; (with_reducible refine (whole_DivMod.calls k1 x0_1 t1035 t1036 t1037 t1038 _ ?side1 A5.out).mono ?_); (case side1 => refine TabW.below hT ?_; apply_rules [HB.out, below_alloc, pw_below_drewN, below_drew1]); rintro e w8 ⟨rfl, hb⟩; refine ⟨_, rfl, ?_⟩; replace HB := Aside0.mk (below_step (by apply_rules [HB.out, below_alloc, pw_below_drewN, below_drew1]) hb); (try clear hb)))
     go_roundg k1
     case measure => have := HK1.out; omega
     case rel => exact ⟨(t1036), (wrap64 (x7_1 + 1)), (by first | rfl | (simp; done) | (simp [*]; done)), (by first | rfl | (simp; done) | (simp [*]; done)), H', ⟨by have := HK1.out; omega⟩, ⟨by apply_rules [HB.out, below_alloc, pw_below_drewN, below_drew1]⟩⟩
    ·rw [if_neg c7] at H
     have c7b0 : (t1038 == 0) = false := beq_eq_false_iff_ne.mpr c7
     have c7b1 : (t1038 != 0) = true := bne_iff_ne.mpr c7
     simp only [Option.some.injEq, Prod.mk.injEq] at H
     obtain ⟨rfl, rfl⟩ := H
     go_wp2_with (first | ((with_reducible refine gate_callee (f := 122) rfl ?_); refine goesK (some 18) Tryz.func122 [.string x0_1, .string t1035] rfl rfl ?_; (with_reducible refine (whole_DivMod.calls k1 x0_1 t1035 t1036 t1037 t1038 _ ?side1 A5.out).mono ?_); (case side1 => refine TabW.below hT ?_; apply_rules [HB.out, below_alloc, pw_below_drewN, below_drew1]); rintro e w9 ⟨rfl, hb⟩; refine ⟨_, rfl, ?_⟩; replace HB := Aside0.mk (below_step (by apply_rules [HB.out, below_alloc, pw_below_drewN, below_drew1]) hb); (try clear hb)))
     go_ret2
     exact ⟨by first | rfl | simp [*], by apply_rules [HB.out, below_alloc, pw_below_drewN, below_drew1]⟩
   ·rw [if_neg c6] at H
    have c6b0 : (t1037.toList == ([48] : List UInt8)) = false := beq_eq_false_iff_ne.mpr c6
    have c6b1 : (t1037.toList != ([48] : List UInt8)) = true := bne_iff_ne.mpr c6
    simp only [Option.some.injEq, Prod.mk.injEq] at H
    obtain ⟨rfl, rfl⟩ := H
    go_wp2_with (first | ((with_reducible refine gate_callee (f := 122) rfl ?_); refine goesK (some 18) Tryz.func122 [.string x0_1, .string t1035] rfl rfl ?_; (with_reducible refine (whole_DivMod.calls k1 x0_1 t1035 t1036 t1037 t1038 _ ?side1 A5.out).mono ?_); (case side1 => refine TabW.below hT ?_; apply_rules [HB.out, below_alloc, pw_below_drewN, below_drew1]); rintro e w10 ⟨rfl, hb⟩; refine ⟨_, rfl, ?_⟩; replace HB := Aside0.mk (below_step (by apply_rules [HB.out, below_alloc, pw_below_drewN, below_drew1]) hb); (try clear hb)))
    go_ret2
    exact ⟨by first | rfl | simp [*], by apply_rules [HB.out, below_alloc, pw_below_drewN, below_drew1]⟩
def prime_factor.l0 : Nat → List Int → ByteArray → ByteArray → List Int → Int → Int → Option (List Int × Bool)
 | 0, _, _, _, _, _, _ => none
 | k + 1, x6, x7, x8, x23, x24, x25 => if x25 < x24 then (if 0 ≤ x25 then (if x25 < (x23.length : Int) then ((prime_divide.f k x7 (rd x23 x25)).bind fun bt1045 => ((prime_divide.f k x8 (rd x23 x25)).bind fun bt1047 => (if x25 < (x6.length : Int) then (prime_factor.l0 k (x6.set (x25 : Int).toNat (wrap64 (bt1045.2 - bt1047.2))) bt1045.1 bt1047.1 x23 x24 (wrap64 (x25 + 1))) else (none)))) else (none)) else (none)) else (if x7.toList = ([49] : List UInt8) then (some (x6, (x8.toList == ([49] : List UInt8)))) else (some (x6, false)))
def prime_factor.f (k : Nat) (l0 : List Int) (a1_0 : ByteArray) (a1_1 : ByteArray) : Option (List Int × Bool) := (fraction_Sign.f a1_0 a1_1).bind fun t1040 => (if t1040 ≤ 0 then (some (([] : List Int), false)) else (if 0 ≤ (l0.length : Int) then (if ((l0.length : Int) : Int).toNat ≤ 35184372088832 then (prime_factor.l0 k (List.replicate ((l0.length : Int) : Int).toNat 0) a1_0 a1_1 l0 (l0.length : Int) 0) else (none)) else (none)))
set_option maxHeartbeats 8000000 in
set_option maxRecDepth 100000 in
theorem prime_factor.calls (k : Nat) (A0 : Option Addr) (c0 : Nat) (l0 : List Int) (a1_0 : ByteArray) (a1_1 : ByteArray) (r1 : List Int) (r2 : Bool) (w : World) (hT : TabW w) (hr0 : Kd.C (Kd.int .i64) w A0 l0.length l0) (hc0 : l0.length ≤ c0) (h : prime_factor.f k l0 a1_0 a1_1 = some (r1, r2)) :
  Calls Tryz.prog 138 #[.slice A0 l0.length c0, .agg #[.string a1_0, .string a1_1]] w fun e w' => ∃ v0_ : Value, e = .returned (.tuple #[v0_, .bool r2]) ∧ Kd.R (Kd.int .i64) 3 w' w.heap.size (fun _ => True) v0_ r1 ∧ Below w.heap.size w w' := by
 have hu38 := Tryz.underlying38
 have HR0 := Aside0.mk hr0
 have HC0 := Aside0.mk hc0
 clear hr0 hc0
 have HB := Aside0.mk (Below.refl w.heap.size w)
 have H : ((fraction_Sign.f a1_0 a1_1).bind fun t1040 => (if t1040 ≤ 0 then (some (([] : List Int), false)) else (if 0 ≤ (l0.length : Int) then (if ((l0.length : Int) : Int).toNat ≤ 35184372088832 then (prime_factor.l0 k (List.replicate ((l0.length : Int) : Int).toNat 0) a1_0 a1_1 l0 (l0.length : Int) 0) else (none)) else (none)))) = some (r1, r2) := h
 clear h
 replace H := Option.bind_eq_some_iff.mp H
 obtain ⟨t1040, A30, H⟩ := H
 try dsimp only at H
 have A3 := Aside0.mk A30
 clear A30
 by_cases c4 : t1040 ≤ 0
 ·rw [if_pos c4] at H
  have c4b0 : decide (t1040 ≤ 0) = true := decide_eq_true c4
  clear c4
  simp only [Option.some.injEq, Prod.mk.injEq] at H
  obtain ⟨rfl, rfl⟩ := H
  go_enter Tryz.func138, Tryz.ntmps138
  go_wp2_with (first | ((with_reducible refine gate_dst (N := 3) rfl ?_); refine box_event ?hg (N := 3) ?hd (cs := #[.string a1_0, .string a1_1]) (t := 38) ?hr ?_; (case hd => rfl); (case hg => rfl); (case hr => go_simp; try rfl); intro gb1039 hg w5 hbox hb; have n0_ := Aside0.mk (below_step (by apply_rules [HB.out, below_alloc, pw_below_drewN, below_drew1]) hb); have n1_ := Aside0.mk (hbox); have n2_ := Aside0.mk ((by rw [hg]; exact (below_size (by apply_rules [HB.out, below_alloc, pw_below_drewN, below_drew1])) : w.heap.size ≤ gb1039)); have n3_ := Aside0.mk ((by rw [hg]; exact (below_size (by apply_rules [HB.out, below_alloc, pw_below_drewN, below_drew1])) : w.heap.size ≤ gb1039)); clear HB; have HB := n0_; have BK1039 := n1_; have GW1039 := n2_; have GE1039 := n3_; clear n0_ n1_ n2_ n3_; clear hb hbox hg; have hcz6_0 : w5.cell? ⟨gb1039, 0, none⟩ = some (.string a1_0) := (blk_cell BK1039.out 0).trans rfl; have hcz6_1 : w5.cell? ⟨gb1039, 1, none⟩ = some (.string a1_1) := (blk_cell BK1039.out 1).trans rfl; have hfz6_0 := blk_frozen BK1039.out 0; have hfz6_1 := blk_frozen BK1039.out 1) | (go_at_call 99; (with_reducible refine (fraction_Sign.calls a1_0 a1_1 t1040 _ A3.out).mono ?_); rintro e w7 ⟨rfl, hb⟩; replace BK1039 := Aside0.mk (blk_below (g := gb1039) (o := .cells #[.string a1_0, .string a1_1] 38 (0, 0)) (by apply_rules [BK1039.out, blk_drewN, blk_drew, blk_alloc]) hb); replace HB := Aside0.mk (below_step (by apply_rules [HB.out, below_alloc, pw_below_drewN, below_drew1, below_set, GE1039.out]) hb); (try clear hb)))
  go_ret2
  exact ⟨(.slice none 0 0), by first | rfl | simp [*], by first | exact Kd.R_nil _ _ _ _ _ | exact Kd.N_nil _ _ _ _ _ | exact Kd.V_nil _ _ _ _ _ | exact Kd.Q_nil _ _ _ _ _ | exact Kd.S_nil _ _ _ _ _, by apply_rules [HB.out, below_alloc, pw_below_drewN, below_drew1, below_set, GE1039.out]⟩
 ·rw [if_neg c4] at H
  have c4b0 : decide (t1040 ≤ 0) = false := decide_eq_false c4
  clear c4
  by_cases c8 : 0 ≤ (l0.length : Int)
  case neg => rw [if_neg c8] at H; exact absurd H (by simp)
  rw [if_pos c8] at H
  have c8b0 := eq_true c8
  have c8b1 : decide (0 ≤ (l0.length : Int)) = true := decide_eq_true c8
  clear c8
  by_cases c9 : ((l0.length : Int) : Int).toNat ≤ 35184372088832
  case neg => rw [if_neg c9] at H; exact absurd H (by simp)
  rw [if_pos c9] at H
  have c9b0 := eq_true c9
  have c9b1 : decide (((l0.length : Int) : Int).toNat ≤ 35184372088832) = true := decide_eq_true c9
  clear c9
  obtain ⟨y1041, hy1041⟩ : ∃ y_ : List Int, y_ = (List.replicate ((l0.length : Int) : Int).toNat 0) := ⟨_, rfl⟩
  replace H : (prime_factor.l0 k y1041 a1_0 a1_1 l0 (l0.length : Int) 0) = some (r1, r2) := by first | (rw [hy1041]; with_reducible exact H) | (have H2_ := (Option.bind_some _ _).symm.trans H; rw [hy1041]; with_reducible exact H2_) | (have H2_ := (Option.bind_some _ _).symm.trans H; with_reducible exact H2_) | with_reducible exact H | (rw [hy1041]; exact H) | exact H
  have Ny1041 := Aside0.mk hy1041
  clear hy1041
  have H' := Aside0.mk H
  clear H
  go_enter Tryz.func138, Tryz.ntmps138
  go_wp2_with (first | ((with_reducible refine gate_dst (N := 3) rfl ?_); refine box_event ?hg (N := 3) ?hd (cs := #[.string a1_0, .string a1_1]) (t := 38) ?hr ?_; (case hd => rfl); (case hg => rfl); (case hr => go_simp; try rfl); intro gb1039 hg w10 hbox hb; have n0_ := Aside0.mk (below_step (by apply_rules [HB.out, below_alloc, pw_below_drewN, below_drew1]) hb); have n1_ := Aside0.mk (hbox); have n2_ := Aside0.mk ((by rw [hg]; exact (below_size (by apply_rules [HB.out, below_alloc, pw_below_drewN, below_drew1])) : w.heap.size ≤ gb1039)); have n3_ := Aside0.mk ((by rw [hg]; exact (below_size (by apply_rules [HB.out, below_alloc, pw_below_drewN, below_drew1])) : w.heap.size ≤ gb1039)); clear HB; have HB := n0_; have BK1039 := n1_; have GW1039 := n2_; have GE1039 := n3_; clear n0_ n1_ n2_ n3_; clear hb hbox hg; have hcz11_0 : w10.cell? ⟨gb1039, 0, none⟩ = some (.string a1_0) := (blk_cell BK1039.out 0).trans rfl; have hcz11_1 : w10.cell? ⟨gb1039, 1, none⟩ = some (.string a1_1) := (blk_cell BK1039.out 1).trans rfl; have hfz11_0 := blk_frozen BK1039.out 0; have hfz11_1 := blk_frozen BK1039.out 1) | (go_at_call 99; (with_reducible refine (fraction_Sign.calls a1_0 a1_1 t1040 _ A3.out).mono ?_); rintro e w12 ⟨rfl, hb⟩; replace BK1039 := Aside0.mk (blk_below (g := gb1039) (o := .cells #[.string a1_0, .string a1_1] 38 (0, 0)) (by apply_rules [BK1039.out, blk_drewN, blk_drew, blk_alloc]) hb); replace HB := Aside0.mk (below_step (by apply_rules [HB.out, below_alloc, pw_below_drewN, below_drew1, below_set, GE1039.out]) hb); (try clear hb)) | ((with_reducible refine gate_dst (N := 18) rfl ?_); refine Kd.R_make (Kd.int .i64) _ 3 rfl (N := 18) rfl 24 _ _ rfl (l0.length : Int) rfl rfl Tryz.underlying24 (.int .i64 0) 8 info3 rfl (by decide) (by omega) 0 (ok := fun _ => True) (okp := fun _ => True) rfl (fun _ hk => hk) trivial (of_decide_eq_true (by assumption)) (Nat.le_trans (Nat.mul_le_mul_right _ (of_decide_eq_true (by assumption) : (l0.length : Int).toNat ≤ 35184372088832)) (by omega)) (Below.refl _ _) (Nat.le_refl _) ?_; intro v1042 w13 ho14 hb hg_ hnew_; clear hg_ hnew_; (first | rw [← Ny1041.out] at ho14 | (simp only [Int.reduceToNat] at ho14; rw [← Ny1041.out] at ho14)); have HO1043 := Aside0.mk (Kd.R_lower ho14 (below_size (by apply_rules [HB.out, below_alloc, pw_below_drewN, below_drew1, below_set, GE1039.out]))); replace BK1039 := Aside0.mk (blk_below (g := gb1039) (o := .cells #[.string a1_0, .string a1_1] 38 (0, 0)) (by apply_rules [BK1039.out, blk_drewN, blk_drew, blk_alloc]) hb); replace HB := Aside0.mk (below_step (by apply_rules [HB.out, below_alloc, pw_below_drewN, below_drew1, below_set, GE1039.out]) hb); clear hb ho14; have hcz15_0 : w13.cell? ⟨gb1039, 0, none⟩ = some (.string a1_0) := (blk_cell BK1039.out 0).trans rfl; have hcz15_1 : w13.cell? ⟨gb1039, 1, none⟩ = some (.string a1_1) := (blk_cell BK1039.out 1).trans rfl; have hfz15_0 := blk_frozen BK1039.out 0; have hfz15_1 := blk_frozen BK1039.out 1))
  repeat (go_quiet (first | ((with_reducible refine gate_dst (N := 3) rfl ?_); refine box_event ?hg (N := 3) ?hd (cs := #[.string a1_0, .string a1_1]) (t := 38) ?hr ?_; (case hd => rfl); (case hg => rfl); (case hr => go_simp; try rfl); intro gb1039 hg w10 hbox hb; have n0_ := Aside0.mk (below_step (by apply_rules [HB.out, below_alloc, pw_below_drewN, below_drew1]) hb); have n1_ := Aside0.mk (hbox); have n2_ := Aside0.mk ((by rw [hg]; exact (below_size (by apply_rules [HB.out, below_alloc, pw_below_drewN, below_drew1])) : w.heap.size ≤ gb1039)); have n3_ := Aside0.mk ((by rw [hg]; exact (below_size (by apply_rules [HB.out, below_alloc, pw_below_drewN, below_drew1])) : w.heap.size ≤ gb1039)); clear HB; have HB := n0_; have BK1039 := n1_; have GW1039 := n2_; have GE1039 := n3_; clear n0_ n1_ n2_ n3_; clear hb hbox hg; have hcz11_0 : w10.cell? ⟨gb1039, 0, none⟩ = some (.string a1_0) := (blk_cell BK1039.out 0).trans rfl; have hcz11_1 : w10.cell? ⟨gb1039, 1, none⟩ = some (.string a1_1) := (blk_cell BK1039.out 1).trans rfl; have hfz11_0 := blk_frozen BK1039.out 0; have hfz11_1 := blk_frozen BK1039.out 1) | (go_at_call 99; (with_reducible refine (fraction_Sign.calls a1_0 a1_1 t1040 _ A3.out).mono ?_); rintro e w12 ⟨rfl, hb⟩; replace BK1039 := Aside0.mk (blk_below (g := gb1039) (o := .cells #[.string a1_0, .string a1_1] 38 (0, 0)) (by apply_rules [BK1039.out, blk_drewN, blk_drew, blk_alloc]) hb); replace HB := Aside0.mk (below_step (by apply_rules [HB.out, below_alloc, pw_below_drewN, below_drew1, below_set, GE1039.out]) hb); (try clear hb)) | ((with_reducible refine gate_dst (N := 18) rfl ?_); refine Kd.R_make (Kd.int .i64) _ 3 rfl (N := 18) rfl 24 _ _ rfl (l0.length : Int) rfl rfl Tryz.underlying24 (.int .i64 0) 8 info3 rfl (by decide) (by omega) 0 (ok := fun _ => True) (okp := fun _ => True) rfl (fun _ hk => hk) trivial (of_decide_eq_true (by assumption)) (Nat.le_trans (Nat.mul_le_mul_right _ (of_decide_eq_true (by assumption) : (l0.length : Int).toNat ≤ 35184372088832)) (by omega)) (Below.refl _ _) (Nat.le_refl _) ?_; intro v1042 w13 ho14 hb hg_ hnew_; clear hg_ hnew_; (first | rw [← Ny1041.out] at ho14 | (simp only [Int.reduceToNat] at ho14; rw [← Ny1041.out] at ho14)); have HO1043 := Aside0.mk (Kd.R_lower ho14 (below_size (by apply_rules [HB.out, below_alloc, pw_below_drewN, below_drew1, below_set, GE1039.out]))); replace BK1039 := Aside0.mk (blk_below (g := gb1039) (o := .cells #[.string a1_0, .string a1_1] 38 (0, 0)) (by apply_rules [BK1039.out, blk_drewN, blk_drew, blk_alloc]) hb); replace HB := Aside0.mk (below_step (by apply_rules [HB.out, below_alloc, pw_below_drewN, below_drew1, below_set, GE1039.out]) hb); clear hb ho14; have hcz15_0 : w13.cell? ⟨gb1039, 0, none⟩ = some (.string a1_0) := (blk_cell BK1039.out 0).trans rfl; have hcz15_1 : w13.cell? ⟨gb1039, 1, none⟩ = some (.string a1_1) := (blk_cell BK1039.out 1).trans rfl; have hfz15_0 := blk_frozen BK1039.out 0; have hfz15_1 := blk_frozen BK1039.out 1)); try go_wp2)
  go_loopg [7, 8, 25] k (fun kq v7 v8 v25 w' => ∃ (x6_1 : List Int) (x7_1 : ByteArray) (x8_1 : ByteArray) (x25_1 : Int), v7 = .string x7_1 ∧ v8 = .string x8_1 ∧ v25 = .int .i64 x25_1 ∧ Aside0 (prime_factor.l0 kq x6_1 x7_1 x8_1 l0 (l0.length : Int) x25_1 = some (r1, r2)) ∧ Aside0 (kq ≤ k) ∧ Aside0 (Kd.R (Kd.int .i64) 3 w' w.heap.size (fun _ => True) v1042 x6_1) ∧ Aside0 (w'.heap[gb1039]? = some (.cells #[.string a1_0, .string a1_1] 38 (0, 0))) ∧ Aside0 (Below w.heap.size w w'))
  case atStart => exact ⟨(y1041), (a1_0), (a1_1), (0), (by first | rfl | (simp; done) | (simp [*]; done)), (by first | rfl | (simp; done) | (simp [*]; done)), (by first | rfl | (simp; done) | (simp [*]; done)), H', ⟨Nat.le_refl _⟩, ⟨by apply_rules [HO1043.out, Kd.R_alloc, Kd.R_drewN, Kd.R_drew]⟩, ⟨by apply_rules [BK1039.out, blk_drewN, blk_drew, blk_alloc]⟩, ⟨by apply_rules [HB.out, below_alloc, pw_below_drewN, below_drew1, below_set, GE1039.out]⟩⟩
  case round =>
   clear H'
   obtain ⟨x6_1, x7_1, x8_1, x25_1, rfl, rfl, rfl, HA, HK1, HO_6, BK1039, HB⟩ := hrel
   cases gk with
   | zero => exact absurd HA.out (by simp [prime_factor.l0])
   | succ k1 =>
    have H := HA.out
    clear HA
    simp only [prime_factor.l0] at H
    by_cases c16 : x25_1 < (l0.length : Int)
    ·rw [if_pos c16] at H
     have c16b0 : decide (x25_1 < (l0.length : Int)) = true := decide_eq_true c16
     clear c16
     by_cases c17 : 0 ≤ x25_1
     case neg => rw [if_neg c17] at H; exact absurd H (by simp)
     rw [if_pos c17] at H
     have c17b0 : decide (0 ≤ x25_1) = true := decide_eq_true c17
     clear c17
     by_cases c18 : x25_1 < (l0.length : Int)
     case neg => rw [if_neg c18] at H; exact absurd H (by simp)
     rw [if_pos c18] at H
     have c18b0 : decide (x25_1 < (l0.length : Int)) = true := decide_eq_true c18
     clear c18
     replace H := Option.bind_eq_some_iff.mp H
     obtain ⟨⟨t1045, t1046⟩, A190, H⟩ := H
     try dsimp only at H
     have A19 := Aside0.mk A190
     clear A190
     replace H := Option.bind_eq_some_iff.mp H
     obtain ⟨⟨t1047, t1048⟩, A200, H⟩ := H
     try dsimp only at H
     have A20 := Aside0.mk A200
     clear A200
     by_cases c21 : x25_1 < (x6_1.length : Int)
     case neg => rw [if_neg c21] at H; exact absurd H (by simp)
     rw [if_pos c21] at H
     have c21b0 : decide (x25_1 < (x6_1.length : Int)) = true := decide_eq_true c21
     clear c21
     obtain ⟨y1049, hy1049⟩ : ∃ y_ : List Int, y_ = (x6_1.set (x25_1 : Int).toNat (wrap64 (t1046 - t1048))) := ⟨_, rfl⟩
     replace H : (prime_factor.l0 k1 y1049 t1045 t1047 l0 (l0.length : Int) (wrap64 (x25_1 + 1))) = some (r1, r2) := by first | (rw [hy1049]; with_reducible exact H) | (have H2_ := (Option.bind_some _ _).symm.trans H; rw [hy1049]; with_reducible exact H2_) | (have H2_ := (Option.bind_some _ _).symm.trans H; with_reducible exact H2_) | with_reducible exact H | (rw [hy1049]; exact H) | exact H
     have Ny1049 := Aside0.mk hy1049
     clear hy1049
     have H' := Aside0.mk H
     clear H
     have p1044 : 0 ≤ (x25_1 : Int) := of_decide_eq_true (by assumption)
     have q1044 : x25_1 < (l0.length : Int) := of_decide_eq_true (by assumption)
     obtain ⟨ad1044, e1044, hx1044_0⟩ := Kd.at_int HR0.out x25_1 p1044 q1044
     cases e1044
     replace hx1044_0 := (HB.out.cell (World.block_lt_of_cell? w _ hx1044_0)).trans hx1044_0
     replace p1044 := eq_true p1044
     replace q1044 := eq_true q1044
     go_wp2_with (first | (go_at_call 187; (with_reducible refine (prime_divide.calls k1 x7_1 (rd l0 x25_1) t1045 t1046 _ ?side1 A19.out).mono ?_); (case side1 => refine TabW.below hT ?_; apply_rules [HB.out, below_alloc, pw_below_drewN, below_drew1, below_set, GE1039.out]); rintro e w23 ⟨rfl, hb⟩; replace HO_6 := Aside0.mk (Kd.R_below (by apply_rules [HO_6.out, Kd.R_alloc, Kd.R_drewN, Kd.R_drew]) hb); replace BK1039 := Aside0.mk (blk_below (g := gb1039) (o := .cells #[.string a1_0, .string a1_1] 38 (0, 0)) (by apply_rules [BK1039.out, blk_drewN, blk_drew, blk_alloc]) hb); replace HB := Aside0.mk (below_step (by apply_rules [HB.out, below_alloc, pw_below_drewN, below_drew1, below_set, GE1039.out]) hb); (try clear hb)) | (go_at_call 187; (with_reducible refine (prime_divide.calls k1 x8_1 (rd l0 x25_1) t1047 t1048 _ ?side1 A20.out).mono ?_); (case side1 => refine TabW.below hT ?_; apply_rules [HB.out, below_alloc, pw_below_drewN, below_drew1, below_set, GE1039.out]); rintro e w24 ⟨rfl, hb⟩; replace HO_6 := Aside0.mk (Kd.R_below (by apply_rules [HO_6.out, Kd.R_alloc, Kd.R_drewN, Kd.R_drew]) hb); replace BK1039 := Aside0.mk (blk_below (g := gb1039) (o := .cells #[.string a1_0, .string a1_1] 38 (0, 0)) (by apply_rules [BK1039.out, blk_drewN, blk_drew, blk_alloc]) hb); replace HB := Aside0.mk (below_step (by apply_rules [HB.out, below_alloc, pw_below_drewN, below_drew1, below_set, GE1039.out]) hb); (try clear hb); have p22 : 0 ≤ (x25_1 : Int) := of_decide_eq_true (by assumption); have q22 : (x25_1 : Int) < ((x6_1.length : Int) : Int) := of_decide_eq_true (by assumption); obtain ⟨go22, co22, eo22, gb22, gl22, cl22, HG22⟩ := Kd.R_form HO_6.out (by omega); (first | cases eo22 | (injection eo22 with ea_ en_ ec_; (first | subst ea_ | (injection ea_ with ea_; subst ea_)); subst ec_; clear en_)); have GB22 := Aside0.mk gb22; have GG22 := Aside0.mk HG22; clear gb22 gl22 HG22; obtain ⟨hx22_0, hf22_0⟩ := Kd.R_celln 0 HO_6.out (x25_1 : Int) p22 q22; replace p22 := eq_true p22; replace q22 := eq_true q22; obtain ⟨hy25_, hz25_⟩ := Kd.R_celln 0 HO_6.out (x25_1 : Int) (of_decide_eq_true (by assumption)) (of_decide_eq_true (by assumption)); have HP25 := Kd.R_putg HO_6.out (x25_1 : Int) (wrap64 (t1046 - t1048))) | ((with_reducible refine gate_store (t := 3) (p := 47) rfl ?_); (try (rw [drewN_self w24]; generalize hq_ : World.drewN w24 _ = w24; replace HO_6 := Aside0.mk (Kd.R_at hq_ HO_6.out); replace BK1039 := Aside0.mk (blk_at hq_ BK1039.out); replace HB := Aside0.mk (below_at hq_ HB.out); clear hq_; (try (obtain ⟨hy25_, hz25_⟩ := Kd.R_celln 0 HO_6.out (x25_1 : Int) (of_decide_eq_true (by assumption)) (of_decide_eq_true (by assumption)))); (try (have HP25 := Kd.R_putg HO_6.out (x25_1 : Int) (wrap64 (t1046 - t1048)))))); refine store_event (t := 3) (p := 47) (v := ?vo_w26) (w1 := (w24.setCell ⟨go22, (x25_1 : Int).toNat, none⟩ (.int .i64 (wrap64 (t1046 - t1048))))) ?hg ?ho ?hn ?hr ?_; (case ho => rfl); (case hg => rfl); (case hn => rfl); (case hr => go_simp; try rfl); intro w26 hw; have hg : w24.grownBy w26 (some go22) := (by rw [hw]; exact HP25.2); have hp_ : Kd.R (Kd.int .i64) 3 w26 w.heap.size (fun _ => True) (.slice (some ⟨go22, 0, none⟩) x6_1.length co22) y1049 := (by rw [hw, Ny1049.out]; exact HP25.1); clear HP25; have n0_ := Aside0.mk (hp_); have n1_ := Aside0.mk (blk_grown (g := gb1039) (o := .cells #[.string a1_0, .string a1_1] 38 (0, 0)) (by apply_rules [BK1039.out, blk_drewN, blk_drew, blk_alloc]) hg (Kd.R_ne HO_6.out BK1039.out (by decide))); have n2_ := Aside0.mk ((by rw [hw]; exact below_set (HB.out) GB22.out : Below w.heap.size w w26)); clear HO_6; clear BK1039; clear HB; have HO_6 := n0_; have BK1039 := n1_; have HB := n2_; clear n0_ n1_ n2_; clear hg hw hp_))
     go_roundg k1
     case measure => have := HK1.out; omega
     case rel => exact ⟨(y1049), (t1045), (t1047), (wrap64 (x25_1 + 1)), (by first | rfl | (simp; done) | (simp [*]; done)), (by first | rfl | (simp; done) | (simp [*]; done)), (by first | rfl | (simp; done) | (simp [*]; done)), H', ⟨by have := HK1.out; omega⟩, ⟨by apply_rules [HO_6.out, Kd.R_alloc, Kd.R_drewN, Kd.R_drew]⟩, ⟨by apply_rules [BK1039.out, blk_drewN, blk_drew, blk_alloc]⟩, ⟨by apply_rules [HB.out, below_alloc, pw_below_drewN, below_drew1, below_set, GE1039.out]⟩⟩
    ·rw [if_neg c16] at H
     have c16b0 : decide (x25_1 < (l0.length : Int)) = false := decide_eq_false c16
     clear c16
     by_cases c27 : x7_1.toList = ([49] : List UInt8)
     ·rw [if_pos c27] at H
      have c27b0 : (x7_1.toList == ([49] : List UInt8)) = true := beq_iff_eq.mpr c27
      have c27b1 : (x7_1.toList != ([49] : List UInt8)) = false := bne_eq_false_iff_eq.mpr c27
      clear c27
      simp only [Option.some.injEq, Prod.mk.injEq] at H
      obtain ⟨rfl, rfl⟩ := H
      go_wp2
      go_ret2
      exact ⟨_, by first | rfl | simp [*], by (with_reducible repeat (first | apply Kd.R_alloc | apply Kd.R_drewN | apply Kd.R_drew)); exact HO_6.out, by apply_rules [HB.out, below_alloc, pw_below_drewN, below_drew1, below_set, GE1039.out]⟩
     ·rw [if_neg c27] at H
      have c27b0 : (x7_1.toList == ([49] : List UInt8)) = false := beq_eq_false_iff_ne.mpr c27
      have c27b1 : (x7_1.toList != ([49] : List UInt8)) = true := bne_iff_ne.mpr c27
      simp only [Option.some.injEq, Prod.mk.injEq] at H
      obtain ⟨rfl, rfl⟩ := H
      go_wp2
      go_ret2
      exact ⟨_, by first | rfl | simp [*], by (with_reducible repeat (first | apply Kd.R_alloc | apply Kd.R_drewN | apply Kd.R_drew)); exact HO_6.out, by apply_rules [HB.out, below_alloc, pw_below_drewN, below_drew1, below_set, GE1039.out]⟩
def prime_open.f (k : Nat) (l0 : List Int) (a1_0 : ByteArray) (a1_1 : ByteArray) : Option (Int) := (prime_Check.f k l0).bind fun t1033 => (if t1033 = 0 then ((fraction_Check.f k a1_0 a1_1).bind fun t1034 => (some t1034)) else (some t1033))
set_option maxHeartbeats 8000000 in
set_option maxRecDepth 100000 in
theorem prime_open.calls (k : Nat) (A0 : Option Addr) (c0 : Nat) (l0 : List Int) (a1_0 : ByteArray) (a1_1 : ByteArray) (r : Int) (w : World) (hT : TabW w) (hr0 : Kd.C (Kd.int .i64) w A0 l0.length l0) (hc0 : l0.length ≤ c0) (h : prime_open.f k l0 a1_0 a1_1 = some r) :
  Calls Tryz.prog 137 #[.slice A0 l0.length c0, .agg #[.string a1_0, .string a1_1]] w fun e w' => e = .returned (.int .i64 r) ∧ Below w.heap.size w w' := by
 have hu38 := Tryz.underlying38
 have HR0 := Aside0.mk hr0
 have HC0 := Aside0.mk hc0
 clear hr0 hc0
 have HB := Aside0.mk (Below.refl w.heap.size w)
 have H : ((prime_Check.f k l0).bind fun t1033 => (if t1033 = 0 then ((fraction_Check.f k a1_0 a1_1).bind fun t1034 => (some t1034)) else (some t1033))) = some r := h
 clear h
 replace H := Option.bind_eq_some_iff.mp H
 obtain ⟨t1033, A30, H⟩ := H
 try dsimp only at H
 have A3 := Aside0.mk A30
 clear A30
 by_cases c4 : t1033 = 0
 ·rw [if_pos c4] at H
  have c4b0 : (t1033 == 0) = true := beq_iff_eq.mpr c4
  have c4b1 : (t1033 != 0) = false := bne_eq_false_iff_eq.mpr c4
  clear c4
  replace H := Option.bind_eq_some_iff.mp H
  obtain ⟨t1034, A50, H⟩ := H
  try dsimp only at H
  have A5 := Aside0.mk A50
  clear A50
  obtain rfl := Option.some.inj H
  go_enter Tryz.func137, Tryz.ntmps137
  go_wp2_with (first | ((with_reducible refine gate_dst (N := 3) rfl ?_); refine box_event ?hg (N := 3) ?hd (cs := #[.string a1_0, .string a1_1]) (t := 38) ?hr ?_; (case hd => rfl); (case hg => rfl); (case hr => go_simp; try rfl); intro gb1032 hg w6 hbox hb; have n0_ := Aside0.mk (below_step (by apply_rules [HB.out, below_alloc, pw_below_drewN, below_drew1]) hb); have n1_ := Aside0.mk (hbox); have n2_ := Aside0.mk ((by rw [hg]; exact (below_size (by apply_rules [HB.out, below_alloc, pw_below_drewN, below_drew1])) : w.heap.size ≤ gb1032)); have n3_ := Aside0.mk ((by rw [hg]; exact (below_size (by apply_rules [HB.out, below_alloc, pw_below_drewN, below_drew1])) : w.heap.size ≤ gb1032)); clear HB; have HB := n0_; have BK1032 := n1_; have GW1032 := n2_; have GE1032 := n3_; clear n0_ n1_ n2_ n3_; clear hb hbox hg) | ((with_reducible refine gate_callee (f := 29) rfl ?_); refine goesK (some 7) Tryz.func29 [.slice A0 l0.length c0] rfl rfl ?_; (with_reducible refine (prime_Check.calls k _ _ l0 t1033 _ ?side1 ?side2 A3.out).mono ?_); (case side1 => apply_rules [(Kd.C_below HR0.out HB.out), Kd.C_alloc, Kd.C_drewN, Kd.C_drew]); (case side2 => exact HC0.out); rintro e w' ⟨rfl, ⟨nd, rfl⟩⟩; refine ⟨_, rfl, ?_⟩; have hcz7_0 : w6.cell? ⟨gb1032, 0, none⟩ = some (.string a1_0) := (blk_cell BK1032.out 0).trans rfl; have hcz7_1 : w6.cell? ⟨gb1032, 1, none⟩ = some (.string a1_1) := (blk_cell BK1032.out 1).trans rfl; have hfz7_0 := blk_frozen BK1032.out 0; have hfz7_1 := blk_frozen BK1032.out 1) | ((with_reducible refine gate_callee (f := 98) rfl ?_); refine goesK (some 12) Tryz.func98 [.agg #[.string a1_0, .string a1_1]] rfl rfl ?_; (with_reducible refine (fraction_Check.calls k a1_0 a1_1 t1034 _ ?side1 A5.out).mono ?_); (case side1 => refine TabW.below hT ?_; apply_rules [HB.out, below_alloc, pw_below_drewN, below_drew1, below_set, GE1032.out]); rintro e w8 ⟨rfl, hb⟩; refine ⟨_, rfl, ?_⟩; replace BK1032 := Aside0.mk (blk_below (g := gb1032) (o := .cells #[.string a1_0, .string a1_1] 38 (0, 0)) (by apply_rules [BK1032.out, blk_drewN, blk_drew, blk_alloc]) hb); replace HB := Aside0.mk (below_step (by apply_rules [HB.out, below_alloc, pw_below_drewN, below_drew1, below_set, GE1032.out]) hb); (try clear hb)))
  go_ret
  exact ⟨by first | rfl | simp [*], by apply_rules [HB.out, below_alloc, pw_below_drewN, below_drew1, below_set, GE1032.out]⟩
 ·rw [if_neg c4] at H
  have c4b0 : (t1033 == 0) = false := beq_eq_false_iff_ne.mpr c4
  have c4b1 : (t1033 != 0) = true := bne_iff_ne.mpr c4
  obtain rfl := Option.some.inj H
  go_enter Tryz.func137, Tryz.ntmps137
  go_wp2_with (first | ((with_reducible refine gate_dst (N := 3) rfl ?_); refine box_event ?hg (N := 3) ?hd (cs := #[.string a1_0, .string a1_1]) (t := 38) ?hr ?_; (case hd => rfl); (case hg => rfl); (case hr => go_simp; try rfl); intro gb1032 hg w9 hbox hb; have n0_ := Aside0.mk (below_step (by apply_rules [HB.out, below_alloc, pw_below_drewN, below_drew1]) hb); have n1_ := Aside0.mk (hbox); have n2_ := Aside0.mk ((by rw [hg]; exact (below_size (by apply_rules [HB.out, below_alloc, pw_below_drewN, below_drew1])) : w.heap.size ≤ gb1032)); have n3_ := Aside0.mk ((by rw [hg]; exact (below_size (by apply_rules [HB.out, below_alloc, pw_below_drewN, below_drew1])) : w.heap.size ≤ gb1032)); clear HB; have HB := n0_; have BK1032 := n1_; have GW1032 := n2_; have GE1032 := n3_; clear n0_ n1_ n2_ n3_; clear hb hbox hg) | ((with_reducible refine gate_callee (f := 29) rfl ?_); refine goesK (some 7) Tryz.func29 [.slice A0 l0.length c0] rfl rfl ?_; (with_reducible refine (prime_Check.calls k _ _ l0 t1033 _ ?side1 ?side2 A3.out).mono ?_); (case side1 => apply_rules [(Kd.C_below HR0.out HB.out), Kd.C_alloc, Kd.C_drewN, Kd.C_drew]); (case side2 => exact HC0.out); rintro e w' ⟨rfl, ⟨nd, rfl⟩⟩; refine ⟨_, rfl, ?_⟩))
  go_ret
  exact ⟨by first | rfl | simp [*], by apply_rules [HB.out, below_alloc, pw_below_drewN, below_drew1, below_set, GE1032.out]⟩
end Go.Proofs.YtccebdpjdpjgnaaGreatDoor.P
end
section
namespace Go.Proofs.YtccebdpjdpjgnaaGreatDoor.P
open Go.RowKit Go.Proofs.YtccebdpjdpjgnaaGreatDoorW.PrintWords Go.Proofs.YtccebdpjdpjgnaaGreatDoorW.PrintLast Go.Proofs.YtccebdpjdpjgnaaGreatDoorW.PrintMore
def farEntry (x : Int) : Bool := decide (x > 1000) || decide (x < -1000)
theorem far_lit (x : Int) (w : World) : Calls Tryz.prog 188 #[.int .i64 x] w fun e w' => e = .returned (.bool (farEntry x)) ∧ ∃ q, w' = w.drewN q := by
 unfold farEntry
 go_enter Tryz.func188, Tryz.ntmps188
 go_wp2
 all_goals
  go_ret
  refine ⟨?_, 0, rfl⟩
  by_cases h1 : 1000 < x
  ·first | omega | simp [h1]
  ·by_cases h2 : x < -1000
   ·first | omega | simp [h1, h2]
   ·first | omega | simp [h1, h2]
theorem contains_lit (g : Nat) (pe : Int → Bool) (hg : ∀ (x : Int) (w : World), Calls Tryz.prog g #[.int .i64 x] w fun e w' => e = .returned (.bool (pe x)) ∧ ∃ q, w' = w.drewN q) (eg : ∀ args w, (callFunc g args).run Tryz.prog w = .ok (.enter g args) w)
  (A0 : Option Addr) (c0 : Nat) (l0 : List Int) (w : World) (hr0 : Kd.C (Kd.int .i64) w A0 l0.length l0) (hc0 : l0.length ≤ c0) :
  Calls Tryz.prog 130 #[.slice A0 l0.length c0, .func (.func g) #[] #[]] w fun e w' => e = .returned (.bool (l0.any pe)) ∧ Below w.heap.size w w' := by
 by_cases h0 : l0.length = 0
 ·obtain rfl := List.length_eq_zero_iff.1 h0
  refine (AnyE.slices_ContainsFunc_empty Tryz.lays130 A0 c0 (.func (.func g) #[] #[]) w).mono ?_
  rintro e w' ⟨rfl, rfl⟩
  exact ⟨rfl, Below.refl _ _⟩
 ·obtain ⟨b, o, rfl, hbk, hcells⟩ := C_flat hr0 (by omega)
  have := AnyE.slices_ContainsFunc Tryz.lays130 (α := Int) (Value.int .i64) pe g #[] eg b o l0.length c0 l0 w (fun W x _ => hg x W) (Nat.le_refl _) hr0.2.1 (fun j hj => by
   have := hcells j (l0[j]!) (by rw [List.getElem?_eq_getElem hj, getElem!_pos l0 j hj])
   exact this)
  rw [List.take_length] at this
  refine this.mono ?_
  rintro e w' ⟨rfl, q, rfl⟩
  exact ⟨rfl, pw_below_drewN (Below.refl _ _) q⟩
def prime_far.f (l0 : List Int) : Option Bool := some (l0.any farEntry)
theorem prime_far.calls (A0 : Option Addr) (c0 : Nat) (l0 : List Int) (r : Bool) (w : World) (hr0 : Kd.C (Kd.int .i64) w A0 l0.length l0) (hc0 : l0.length ≤ c0) (h : prime_far.f l0 = some r) :
  Calls Tryz.prog 139 #[.slice A0 l0.length c0] w fun e w' => e = .returned (.bool r) ∧ Below w.heap.size w w' := by
 have hcon := contains_lit 188 farEntry far_lit (enters_ Tryz.func188 rfl rfl) A0 c0 l0 w hr0 hc0
 unfold prime_far.f at h
 injection h with h
 subst h
 generalize l0.any farEntry = r at hcon ⊢
 clear hr0
 go_enter Tryz.func139, Tryz.ntmps139
 go_wp2_with fail
 refine hcon.mono ?_
 rintro e w1 ⟨rfl, hb1⟩
 go_wp2
 go_ret
 exact ⟨rfl, by repeat (first | (with_reducible first | exact hb1 | apply below_alloc | apply pw_below_drewN | apply below_drew1) | exact hb1)⟩
end Go.Proofs.YtccebdpjdpjgnaaGreatDoor.P
end
