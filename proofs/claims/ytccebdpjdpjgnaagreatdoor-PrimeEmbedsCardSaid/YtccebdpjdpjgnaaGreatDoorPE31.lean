/-
parts of the walks and of the plain laws: ExtSplit Pprimeevery ExtFirst Pprimedivide
-/
import Derived.Lib.Split
import Derived.Test.YtccebdpjdpjgnaaGreatDoorPE22
set_option linter.unusedVariables false
set_option linter.unusedSimpArgs false
section
namespace Go.Proofs.YtccebdpjdpjgnaaGreatDoor.P
open Go.RowKit Go.Proofs.YtccebdpjdpjgnaaGreatDoorW.PrintWords Go.Proofs.YtccebdpjdpjgnaaGreatDoorW.PrintLast Go.Proofs.YtccebdpjdpjgnaaGreatDoorW.PrintMore
def strings_Split.f (a0 a1 : ByteArray) : Option (List ByteArray) := if a0.size < 4294967281 ∧ 1 ≤ a1.size then some (Lib.splitB a1 0 (Lib.countB a0 a1) a0) else none
theorem strings_Split.calls (a0 a1 : ByteArray) (r : List ByteArray) (w : World) (hT : TabW w) (h : strings_Split.f a0 a1 = some r) :
  Calls Tryz.prog 132 #[.string a0, .string a1] w fun e w' => ∃ v0_ : Value, e = .returned (v0_) ∧ Kd.R Kd.string 9 w' w.heap.size (fun _ => True) v0_ r ∧ Below w.heap.size w w' := by
 unfold strings_Split.f at h
 split at h
 ·next hb =>
  injection h with h
  subst h
  obtain ⟨_, _, _, m, hm⟩ := hT
  have hle := Lib.countB_le a1 hb.2 a0.size a0 (Nat.le_refl _)
  have hlen := Lib.splitB_all a1 hb.2 0 _ a0 rfl
  refine (Tryz.strings_Split a0 a1 m w hb.1 hm hb.2).mono ?_
  rintro e w' ⟨rfl, rfl⟩
  refine ⟨_, rfl, ?_, below_alloc (Below.refl _ _) _⟩
  have hb1 := hb.1
  clear hm hb
  generalize Lib.splitB a1 0 (Lib.countB a0 a1) a0 = xs at *
  generalize Lib.countB a0 a1 = n at *
  refine Kd.R_of_own (enc := Value.string) ⟨by simp [encs], .inr ⟨w.heap.size, n + 1, (xs.map Value.string).toArray, by rw [hlen], Nat.le_refl _, ?_, by omega, by unfold maxLen; omega, by simp [hlen], ?_⟩⟩ (fun _ _ => trivial)
  ·show (w.heap.push _)[w.heap.size]? = _
   exact Array.getElem?_push_size
  ·rw [List.take_of_length_le (by simp)]
   rfl
 ·cases h
end Go.Proofs.YtccebdpjdpjgnaaGreatDoor.P
end
section
namespace Go.Proofs.YtccebdpjdpjgnaaGreatDoor.P
open Go.RowKit Go.Proofs.YtccebdpjdpjgnaaGreatDoorW.PrintWords Go.Proofs.YtccebdpjdpjgnaaGreatDoorW.PrintLast Go.Proofs.YtccebdpjdpjgnaaGreatDoorW.PrintMore
attribute [local go_sem] max2_int min2_int max_two min_two max_three min_three max_four min_four
def prime_every.l0 : Nat → List Int → List ByteArray → Int → Int → Option (List Int)
 | 0, _, _, _, _ => none
 | k + 1, x1, x6, x7, x8 => if x8 < x7 then (if 0 ≤ x8 then (if x8 < (x6.length : Int) then ((strconv_Atoi.f (rdOf ByteArray.empty x6 x8)).bind fun bt1721 => (if x1.length < 17592186044416 then (prime_every.l0 k (x1 ++ [bt1721.1]) x6 x7 (wrap64 (x8 + 1))) else (none))) else (none)) else (none)) else (some x1)
def prime_every.f (k : Nat)  : Option (List Int) := (strings_Split.f (⟨#[50, 46, 51, 46, 53, 46, 55, 46, 49, 49, 46, 49, 51, 46, 49, 55, 46, 49, 57, 46, 50, 51, 46, 50, 57, 46, 51, 49, 46, 51, 55, 46, 52, 49, 46, 52, 51, 46, 52, 55, 46, 53, 51, 46, 53, 57, 46, 54, 49, 46, 54, 55, 46, 55, 49, 46, 55, 51, 46, 55, 57, 46, 56, 51, 46, 56, 57, 46, 57, 55]⟩ : ByteArray) (⟨#[46]⟩ : ByteArray)).bind fun t1717 => (prime_every.l0 k ([] : List Int) t1717 (t1717.length : Int) 0)
theorem prime_every.mono_l : ∀ k, (∀ y0 y1 y2 y3, LeO (prime_every.l0 k y0 y1 y2 y3) (prime_every.l0 (k + 1) y0 y1 y2 y3))
 | 0 => fun _ _ _ _ r h => by simp [prime_every.l0] at h
 | k + 1 => by
  have ih0 := prime_every.mono_l k
  ·intro y0 y1 y2 y3
   unfold prime_every.l0
   repeat' first
   | (with_reducible exact ih0 _ _ _ _)
   | (with_reducible exact LeO.refl _)
   | (with_reducible exact LeO.none _)
   | (with_reducible refine LeO.ite ?_ ?_)
   | (with_reducible refine LeO.bind ?_ (fun _ => ?_))
   | exact ih0 _ _ _ _
   | exact LeO.none _
   | refine LeO.ite ?_ ?_
   | refine LeO.bind ?_ (fun _ => ?_)
theorem prime_every.mono : ∀ k, LeO (prime_every.f k ) (prime_every.f (k + 1) ) := by
 intro  k
 have ih0 := prime_every.mono_l k
 unfold prime_every.f
 repeat' first
   | (with_reducible exact ih0 _ _ _ _)
   | (with_reducible exact LeO.refl _)
   | (with_reducible exact LeO.none _)
   | (with_reducible refine LeO.ite ?_ ?_)
   | (with_reducible refine LeO.bind ?_ (fun _ => ?_))
   | exact ih0 _ _ _ _
   | exact LeO.none _
   | refine LeO.ite ?_ ?_
   | refine LeO.bind ?_ (fun _ => ?_)
set_option maxHeartbeats 8000000 in
set_option maxRecDepth 100000 in
theorem prime_every.calls (k : Nat)  (r : List Int) (w : World) (hT : TabW w) (h : prime_every.f k  = some r) :
  Calls Tryz.prog 124 #[] w fun e w' => ∃ v0_ : Value, e = .returned (v0_) ∧ Kd.R (Kd.int .i64) 3 w' w.heap.size (fun _ => True) v0_ r ∧ Below w.heap.size w w' := by
 have HB := Aside0.mk (Below.refl w.heap.size w)
 have H : ((strings_Split.f (⟨#[50, 46, 51, 46, 53, 46, 55, 46, 49, 49, 46, 49, 51, 46, 49, 55, 46, 49, 57, 46, 50, 51, 46, 50, 57, 46, 51, 49, 46, 51, 55, 46, 52, 49, 46, 52, 51, 46, 52, 55, 46, 53, 51, 46, 53, 57, 46, 54, 49, 46, 54, 55, 46, 55, 49, 46, 55, 51, 46, 55, 57, 46, 56, 51, 46, 56, 57, 46, 57, 55]⟩ : ByteArray) (⟨#[46]⟩ : ByteArray)).bind fun t1717 => (prime_every.l0 k ([] : List Int) t1717 (t1717.length : Int) 0)) = some r := h
 clear h
 replace H := Option.bind_eq_some_iff.mp H
 obtain ⟨t1717, A10, H⟩ := H
 replace H : (prime_every.l0 k ([] : List Int) t1717 (t1717.length : Int) 0) = some r := H
 have A1 := Aside0.mk A10
 clear A10
 have H' := Aside0.mk H
 clear H
 go_enter Tryz.func124, Tryz.ntmps124
 go_wp2_with (first | ((with_reducible refine gate_callee (f := 132) rfl ?_); refine goesL_ (some 6) rfl rfl Tryz.func132 (by kernel_rfl) rfl #[.string (⟨#[50, 46, 51, 46, 53, 46, 55, 46, 49, 49, 46, 49, 51, 46, 49, 55, 46, 49, 57, 46, 50, 51, 46, 50, 57, 46, 51, 49, 46, 51, 55, 46, 52, 49, 46, 52, 51, 46, 52, 55, 46, 53, 51, 46, 53, 57, 46, 54, 49, 46, 54, 55, 46, 55, 49, 46, 55, 51, 46, 55, 57, 46, 56, 51, 46, 56, 57, 46, 57, 55]⟩ : ByteArray), .string (⟨#[46]⟩ : ByteArray)] rfl (by (try simp only [List.map_toArray, List.map_cons, List.map_nil]); first | done | rfl | (simp only [List.length_drop, List.length_take]; rfl)) ?_; (with_reducible refine (strings_Split.calls (⟨#[50, 46, 51, 46, 53, 46, 55, 46, 49, 49, 46, 49, 51, 46, 49, 55, 46, 49, 57, 46, 50, 51, 46, 50, 57, 46, 51, 49, 46, 51, 55, 46, 52, 49, 46, 52, 51, 46, 52, 55, 46, 53, 51, 46, 53, 57, 46, 54, 49, 46, 54, 55, 46, 55, 49, 46, 55, 51, 46, 55, 57, 46, 56, 51, 46, 56, 57, 46, 57, 55]⟩ : ByteArray) (⟨#[46]⟩ : ByteArray) t1717 _ ?side1 A1.out).mono ?_); (case side1 => refine TabW.below hT ?_; repeat (first | (with_reducible first | exact HB.out | apply below_alloc | apply pw_below_drewN | apply below_drew1) | exact HB.out)); rintro e w2 ⟨v1718, rfl, ho0, hb⟩; refine ⟨_, rfl, ?_⟩; have n0_ := Aside0.mk (Kd.R_lower ho0 (below_size (by repeat (first | (with_reducible first | exact HB.out | apply below_alloc | apply pw_below_drewN | apply below_drew1) | exact HB.out)))); have n1_ := Aside0.mk (below_step (by repeat (first | (with_reducible first | exact HB.out | apply below_alloc | apply pw_below_drewN | apply below_drew1) | exact HB.out)) hb); clear HB; have HO1719 := n0_; have HB := n1_; clear n0_ n1_; (try clear hb); (try clear hb2); (try clear hk); (try clear hi); (try clear ho0); obtain ⟨Ao3, co3, eo3⟩ := Kd.R_slice HO1719.out; subst eo3))
 go_loopg [1, 8] k (fun kq v1 v8 w' => ∃ (x1_1 : List Int) (x8_1 : Int), v8 = .int .i64 x8_1 ∧ Aside0 (prime_every.l0 kq x1_1 t1717 (t1717.length : Int) x8_1 = some r) ∧ Aside0 (kq ≤ k) ∧ Aside0 (Kd.R (Kd.int .i64) 3 w' w.heap.size (fun _ => True) v1 x1_1) ∧ Aside0 (Kd.R Kd.string 9 w' w.heap.size (fun _ => True) (.slice Ao3 t1717.length co3) t1717) ∧ Aside0 (Below w.heap.size w w'))
 case atStart => exact ⟨(([] : List Int)), (0), (by first | rfl | (simp; done) | (simp [*]; done)), H', ⟨Nat.le_refl _⟩, ⟨by first | exact Kd.R_nil _ _ _ _ _ | exact Kd.N_nil _ _ _ _ _ | exact Kd.V_nil _ _ _ _ _ | exact Kd.Q_nil _ _ _ _ _ | exact Kd.S_nil _ _ _ _ _⟩, ⟨by (with_reducible repeat (first | apply Kd.R_alloc | apply Kd.R_drewN | apply Kd.R_drew)); exact HO1719.out⟩, ⟨by repeat (first | (with_reducible first | exact HB.out | apply below_alloc | apply pw_below_drewN | apply below_drew1) | exact HB.out)⟩⟩
 case round =>
  clear H'
  try clear c1
  try clear p2
  obtain ⟨x1_1, x8_1, rfl, HA, HK1, HO_1, HO_6, HB⟩ := hrel
  cases gk with
  | zero => exact absurd HA.out (by simp [prime_every.l0])
  | succ k1 =>
   have H := HA.out
   clear HA
   simp only [prime_every.l0] at H
   by_cases c4 : x8_1 < (t1717.length : Int)
   ·rw [if_pos c4] at H
    have c4b0 : decide (x8_1 < (t1717.length : Int)) = true := decide_eq_true c4
    clear c4
    by_cases c5 : 0 ≤ x8_1
    ·rw [if_pos c5] at H
     have c5b0 : decide (0 ≤ x8_1) = true := decide_eq_true c5
     clear c5
     by_cases c6 : x8_1 < (t1717.length : Int)
     ·rw [if_pos c6] at H
      have c6b0 : decide (x8_1 < (t1717.length : Int)) = true := decide_eq_true c6
      clear c6
      replace H := Option.bind_eq_some_iff.mp H
      obtain ⟨⟨t1721, t1722⟩, A70, H⟩ := H
      replace H : (if x1_1.length < 17592186044416 then (prime_every.l0 k1 (x1_1 ++ [t1721]) t1717 (t1717.length : Int) (wrap64 (x8_1 + 1))) else (none)) = some r := H
      have A7 := Aside0.mk A70
      clear A70
      by_cases c8 : x1_1.length < 17592186044416
      ·rw [if_pos c8] at H
       have LMc8 := Aside0.mk c8
       clear c8
       obtain ⟨y1723, hy1723⟩ : ∃ y_ : List Int, y_ = (x1_1 ++ [t1721]) := ⟨_, rfl⟩
       replace H : (prime_every.l0 k1 y1723 t1717 (t1717.length : Int) (wrap64 (x8_1 + 1))) = some r := by first | (rw [hy1723]; with_reducible exact H) | (have H2_ := (Option.bind_some _ _).symm.trans H; rw [hy1723]; with_reducible exact H2_) | (have H2_ := (Option.bind_some _ _).symm.trans H; with_reducible exact H2_) | with_reducible exact H | (rw [hy1723]; exact H) | exact H
       have Ny1723 := Aside0.mk hy1723
       clear hy1723
       have H' := Aside0.mk H
       clear H
       have p1720 : 0 ≤ (x8_1 : Int) := of_decide_eq_true (by first | (with_reducible assumption) | assumption)
       have q1720 : x8_1 < (t1717.length : Int) := of_decide_eq_true (by first | (with_reducible assumption) | assumption)
       obtain ⟨ad1720, e1720, hx1720_0⟩ := Kd.at_string (Kd.R_reads' HO_6.out).2.2 x8_1 p1720 q1720
       cases e1720
       replace p1720 := eq_true p1720
       replace q1720 := eq_true q1720
       go_wp2_with (first | ((with_reducible refine gate_callee (f := 133) rfl ?_); refine goesL_ (some 14) rfl rfl Tryz.func133 (by kernel_rfl) rfl #[.string (rdOf ByteArray.empty t1717 x8_1)] rfl (by (try simp only [List.map_toArray, List.map_cons, List.map_nil]); first | done | rfl | (simp only [List.length_drop, List.length_take]; rfl)) ?_; (with_reducible refine (strconv_Atoi.calls (rdOf ByteArray.empty t1717 x8_1) t1721 t1722 _ ?side1 A7.out).mono ?_); (case side1 => refine TabW.below hT ?_; repeat (first | (with_reducible first | exact HB.out | apply below_alloc | apply pw_below_drewN | apply below_drew1) | exact HB.out)); rintro e w9 ⟨ex_, rfl, hx_, hb⟩; refine ⟨_, rfl, ?_⟩; have n0_ := Aside0.mk (Kd.R_below (by (with_reducible repeat (first | apply Kd.R_alloc | apply Kd.R_drewN | apply Kd.R_drew)); exact HO_1.out) hb); have n1_ := Aside0.mk (Kd.R_below (by (with_reducible repeat (first | apply Kd.R_alloc | apply Kd.R_drewN | apply Kd.R_drew)); exact HO_6.out) hb); have n2_ := Aside0.mk (below_step (by repeat (first | (with_reducible first | exact HB.out | apply below_alloc | apply pw_below_drewN | apply below_drew1) | exact HB.out)) hb); clear HO_1; clear HO_6; clear HB; have HO_1 := n0_; have HO_6 := n1_; have HB := n2_; clear n0_ n1_ n2_; (try clear hb); (try clear hb2); (try clear hk); (try clear hi); (first | (have hx2_ := errIs_none hx_; clear hx_; subst hx2_) | (obtain ⟨qx_, hx2_⟩ := errIs_some hx_; clear hx_; subst hx2_) | skip)) | ((with_reducible refine gate_builtin (b := .append) (xs := #[.tmp 17, .tmp 19]) rfl ?_); at_builtin; refine Kd.R_append (Kd.int .i64) (w0 := w) w.heap.size rfl (.tmp 17) (.tmp 19) 23 3 (.int .i64 0) 8 rfl Tryz.underlying23 info3 rfl (by decide) (by omega) u1 x1_1 t1721 [.int .i64 t1721] (fun _ => True) (fun _ => False) rfl rfl ?aP (fun _ hk => hk.elim) ?aF ?aO ?aB ?aS ?aL ?_; (case aP => exact rfl); (case aB => exact (by repeat (first | (with_reducible first | exact HB.out | apply below_alloc | apply pw_below_drewN | apply below_drew1) | exact HB.out))); (case aF => exact (fun _ _ => trivial)); (case aO => exact (by (with_reducible repeat (first | apply Kd.R_alloc | apply Kd.R_drewN | apply Kd.R_drew)); exact HO_1.out)); (case aS => exact (below_size (by repeat (first | (with_reducible first | exact HB.out | apply below_alloc | apply pw_below_drewN | apply below_drew1) | exact HB.out)))); (case aL => have := LMc8.out; omega); intro v1724 w10 ho hb hg hat; rw [← Ny1723.out] at ho; have n0_ := Aside0.mk (Kd.R_over' (by (with_reducible repeat (first | apply Kd.R_alloc | apply Kd.R_drewN | apply Kd.R_drew)); exact HO_6.out) (Kd.R_typed (by (with_reducible repeat (first | apply Kd.R_alloc | apply Kd.R_drewN | apply Kd.R_drew)); exact HO_1.out)) (by decide) hg); have n1_ := Aside0.mk (hb); have n2_ := Aside0.mk (ho); clear HO_6; clear HB; clear HO_1; have HO_6 := n0_; have HB := n1_; have HO1725 := n2_; clear n0_ n1_ n2_; clear ho hb hg hat))
       go_roundg k1
       case measure => have := HK1.out; omega
       case rel => exact ⟨(y1723), (wrap64 (x8_1 + 1)), (by first | rfl | (simp; done) | (simp [*]; done)), H', ⟨by have := HK1.out; omega⟩, ⟨by (with_reducible repeat (first | apply Kd.R_alloc | apply Kd.R_drewN | apply Kd.R_drew)); exact HO1725.out⟩, ⟨by (with_reducible repeat (first | apply Kd.R_alloc | apply Kd.R_drewN | apply Kd.R_drew)); exact HO_6.out⟩, ⟨by repeat (first | (with_reducible first | exact HB.out | apply below_alloc | apply pw_below_drewN | apply below_drew1) | exact HB.out)⟩⟩
      ·rw [if_neg c8] at H
       exact absurd H (by simp)
     ·rw [if_neg c6] at H
      exact absurd H (by simp)
    ·rw [if_neg c5] at H
     exact absurd H (by simp)
   ·rw [if_neg c4] at H
    have c4b0 : decide (x8_1 < (t1717.length : Int)) = false := decide_eq_false c4
    clear c4
    obtain rfl := Option.some.inj H
    go_wp2
    go_ret
    exact ⟨_, by first | rfl | (simp [errW_none, errW_some] <;> rfl) | (simp [*, errW_none, errW_some] <;> rfl), by (with_reducible repeat (first | apply Kd.R_alloc | apply Kd.R_drewN | apply Kd.R_drew)); exact HO_1.out, by repeat (first | (with_reducible first | exact HB.out | apply below_alloc | apply pw_below_drewN | apply below_drew1) | exact HB.out)⟩
end Go.Proofs.YtccebdpjdpjgnaaGreatDoor.P
end
section
namespace Go.Proofs.YtccebdpjdpjgnaaGreatDoor.P
open Go.RowKit Go.Proofs.YtccebdpjdpjgnaaGreatDoorW.PrintWords Go.Proofs.YtccebdpjdpjgnaaGreatDoorW.PrintLast Go.Proofs.YtccebdpjdpjgnaaGreatDoorW.PrintMore
def prime_First.f (k : Nat) (a0 : Int) : Option (List Int × Int) := if a0 < 1 ∨ a0 > 6 then some ([], 3) else (prime_every.f k).bind fun l => if a0.toNat ≤ l.length then some (l.take a0.toNat, 0) else none
theorem prime_First.mono : ∀ a0 k, LeO (prime_First.f k a0) (prime_First.f (k + 1) a0) := by
 intro a0 k r h
 unfold prime_First.f at h ⊢
 split at h
 ·next he => rw [if_pos he]; exact h
 ·next he =>
  rw [if_neg he]
  obtain ⟨l, h1, h⟩ := Option.bind_eq_some_iff.mp h
  rw [prime_every.mono _ _ h1, Option.bind_some]
  exact h
set_option maxHeartbeats 1000000 in
theorem prime_First.calls (k : Nat) (a0 : Int) (r1 : List Int) (r2 : Int) (w : World) (hT : TabW w) (h : prime_First.f k a0 = some (r1, r2)) :
  Calls Tryz.prog 62 #[.int .i64 a0] w fun e w' => ∃ v0_ : Value, e = .returned (.tuple #[v0_, .int .i64 r2]) ∧ Kd.V (Kd.int .i64) 3 w' w.heap.size (fun k_ => w.heap.size ≤ k_) v0_ r1 ∧ Below w.heap.size w w' := by
 unfold prime_First.f at h
 have hb0 := Below.refl w.heap.size w
 by_cases h1 : a0 < 1
 ·rw [if_pos (.inl h1)] at h
  simp only [Option.some.injEq, Prod.mk.injEq] at h
  obtain ⟨rfl, rfl⟩ := h
  go_enter Tryz.func62, Tryz.ntmps62
  go_wp2_with fail
  go_ret2
  exact ⟨_, rfl, Kd.V_nil _ _ _ _ _, by repeat (first | (with_reducible first | exact hb0 | apply below_alloc | apply pw_below_drewN | apply below_drew1) | exact hb0)⟩
 ·by_cases h2 : a0 > 6
  ·rw [if_pos (.inr h2)] at h
   simp only [Option.some.injEq, Prod.mk.injEq] at h
   obtain ⟨rfl, rfl⟩ := h
   have d2 : (6 : Int) < a0 := h2
   go_enter Tryz.func62, Tryz.ntmps62
   go_wp2_with fail
   go_ret2
   exact ⟨_, rfl, Kd.V_nil _ _ _ _ _, by repeat (first | (with_reducible first | exact hb0 | apply below_alloc | apply pw_below_drewN | apply below_drew1) | exact hb0)⟩
  ·rw [if_neg (fun e => e.elim h1 h2)] at h
   obtain ⟨l, hl, h⟩ := Option.bind_eq_some_iff.mp h
   by_cases hz : a0.toNat ≤ l.length
   ·rw [if_pos hz] at h
    simp only [Option.some.injEq, Prod.mk.injEq] at h
    obtain ⟨rfl, rfl⟩ := h
    have d2 : ¬ (6 : Int) < a0 := h2
    go_enter Tryz.func62, Tryz.ntmps62
    go_wp2_with fail
    refine (prime_every.calls k l _ hT hl).mono ?_
    rintro e w1 ⟨v0, rfl, hR, hb1⟩
    obtain ⟨ad, c, rfl⟩ := Kd.R_slice1 hR (by omega)
    obtain ⟨_, hc, _⟩ := Kd.R_reads' hR
    have hF := Kd.F_take (Kd.R_F (Kd.R_mono (Kd.R_bound hR) (fun k_ hk => hk.2.1))) hz
    obtain ⟨n, rfl⟩ := Int.eq_ofNat_of_zero_le (show 0 ≤ a0 by omega)
    rw [Int.toNat_natCast] at hz hF
    have d3 : (n : Int) ≤ (c : Int) := by omega
    clear hR hl
    go_wp2_with fail
    go_ret2
    refine ⟨_, rfl, ?_, by repeat (first | (with_reducible first | exact hb1 | apply below_alloc | apply pw_below_drewN | apply below_drew1) | exact hb1)⟩
    have hl2 : (l.take n).length = n := by rw [List.length_take]; omega
    have hV := Kd.V_mk (e := 3) (base := w.heap.size) (Nat.le_refl (l.take n).length) hF
    rw [hl2] at hV
    exact hV
   ·rw [if_neg hz] at h; cases h
end Go.Proofs.YtccebdpjdpjgnaaGreatDoor.P
end
section
namespace Go.Proofs.YtccebdpjdpjgnaaGreatDoor.P
open Go.RowKit Go.Proofs.YtccebdpjdpjgnaaGreatDoorW.PrintWords Go.Proofs.YtccebdpjdpjgnaaGreatDoorW.PrintLast Go.Proofs.YtccebdpjdpjgnaaGreatDoorW.PrintMore
attribute [local go_sem] max2_int min2_int max_two min_two max_three min_three max_four min_four
def prime_divide.l0 : Nat → ByteArray → ByteArray → Int → Option (ByteArray × Int)
 | 0, _, _, _ => none
 | k + 1, x0, x6, x7 => (whole_DivMod.f k x0 x6).bind fun bt1036 => (if bt1036.2.1.toList = ([48] : List UInt8) then (if bt1036.2.2 = 0 then (prime_divide.l0 k bt1036.1 x6 (wrap64 (x7 + 1))) else (some (x0, x7))) else (some (x0, x7)))
def prime_divide.f (k : Nat) (a0 : ByteArray) (a1 : Int) : Option (ByteArray × Int) := (whole_Of.f a1).bind fun t1035 => (prime_divide.l0 k a0 t1035 0)
theorem prime_divide.mono_l : ∀ k, (∀ y0 y1 y2, LeO (prime_divide.l0 k y0 y1 y2) (prime_divide.l0 (k + 1) y0 y1 y2))
 | 0 => fun _ _ _ r h => by simp [prime_divide.l0] at h
 | k + 1 => by
  have ih0 := prime_divide.mono_l k
  ·intro y0 y1 y2
   unfold prime_divide.l0
   repeat' first
   | (with_reducible exact ih0 _ _ _)
   | (with_reducible exact whole_DivMod.mono _ _ _)
   | (with_reducible exact LeO.refl _)
   | (with_reducible exact LeO.none _)
   | (with_reducible refine LeO.ite ?_ ?_)
   | (with_reducible refine LeO.bind ?_ (fun _ => ?_))
   | exact ih0 _ _ _
   | exact whole_DivMod.mono _ _ _
   | exact LeO.none _
   | refine LeO.ite ?_ ?_
   | refine LeO.bind ?_ (fun _ => ?_)
theorem prime_divide.mono : ∀ a0 a1 k, LeO (prime_divide.f k a0 a1) (prime_divide.f (k + 1) a0 a1) := by
 intro a0 a1 k
 have ih0 := prime_divide.mono_l k
 unfold prime_divide.f
 repeat' first
   | (with_reducible exact ih0 _ _ _)
   | (with_reducible exact whole_DivMod.mono _ _ _)
   | (with_reducible exact LeO.refl _)
   | (with_reducible exact LeO.none _)
   | (with_reducible refine LeO.ite ?_ ?_)
   | (with_reducible refine LeO.bind ?_ (fun _ => ?_))
   | exact ih0 _ _ _
   | exact whole_DivMod.mono _ _ _
   | exact LeO.none _
   | refine LeO.ite ?_ ?_
   | refine LeO.bind ?_ (fun _ => ?_)
set_option maxHeartbeats 8000000 in
set_option maxRecDepth 100000 in
theorem prime_divide.calls (k : Nat) (a0 : ByteArray) (a1 : Int) (r1 : ByteArray) (r2 : Int) (w : World) (hT : TabW w) (h : prime_divide.f k a0 a1 = some (r1, r2)) :
  Calls Tryz.prog 187 #[.string a0, .int .i64 a1] w fun e w' => e = .returned (.tuple #[.string r1, .int .i64 r2]) ∧ Below w.heap.size w w' := by
 have HB := Aside0.mk (Below.refl w.heap.size w)
 have H : ((whole_Of.f a1).bind fun t1035 => (prime_divide.l0 k a0 t1035 0)) = some (r1, r2) := h
 clear h
 replace H := Option.bind_eq_some_iff.mp H
 obtain ⟨t1035, A30, H⟩ := H
 replace H : (prime_divide.l0 k a0 t1035 0) = some (r1, r2) := H
 have A3 := Aside0.mk A30
 clear A30
 have H' := Aside0.mk H
 clear H
 go_enter Tryz.func187, Tryz.ntmps187
 go_wp2_with (first | ((with_reducible refine gate_callee (f := 104) rfl ?_); refine goesL_ (some 12) rfl rfl Tryz.func104 (by kernel_rfl) rfl #[.int .i64 a1] rfl (by (try simp only [List.map_toArray, List.map_cons, List.map_nil]); first | done | rfl | (simp only [List.length_drop, List.length_take]; rfl)) ?_; (with_reducible refine (whole_Of.calls a1 t1035 _ ?side1 A3.out).mono ?_); (case side1 => refine TabW.below hT ?_; repeat (first | (with_reducible first | exact HB.out | apply below_alloc | apply pw_below_drewN | apply below_drew1) | exact HB.out)); rintro e w4 ⟨rfl, hb⟩; refine ⟨_, rfl, ?_⟩; have n0_ := Aside0.mk (below_step (by repeat (first | (with_reducible first | exact HB.out | apply below_alloc | apply pw_below_drewN | apply below_drew1) | exact HB.out)) hb); clear HB; have HB := n0_; clear n0_; (try clear hb); (try clear hb2); (try clear hk); (try clear hi)))
 go_loopg [0, 7] k (fun kq v0 v7 w' => ∃ (x0_1 : ByteArray) (x7_1 : Int), v0 = .string x0_1 ∧ v7 = .int .i64 x7_1 ∧ Aside0 (prime_divide.l0 kq x0_1 t1035 x7_1 = some (r1, r2)) ∧ Aside0 (kq ≤ k) ∧ Aside0 (Below w.heap.size w w'))
 case atStart => exact ⟨(a0), (0), (by first | rfl | (simp; done) | (simp [*]; done)), (by first | rfl | (simp; done) | (simp [*]; done)), H', ⟨Nat.le_refl _⟩, ⟨by repeat (first | (with_reducible first | exact HB.out | apply below_alloc | apply pw_below_drewN | apply below_drew1) | exact HB.out)⟩⟩
 case round =>
  clear H'
  try clear c1
  try clear p2
  obtain ⟨x0_1, x7_1, rfl, rfl, HA, HK1, HB⟩ := hrel
  cases gk with
  | zero => exact absurd HA.out (by simp [prime_divide.l0])
  | succ k1 =>
   have H := HA.out
   clear HA
   simp only [prime_divide.l0] at H
   replace H := Option.bind_eq_some_iff.mp H
   obtain ⟨⟨t1036, t1037, t1038⟩, A50, H⟩ := H
   replace H : (if t1037.toList = ([48] : List UInt8) then (if t1038 = 0 then (prime_divide.l0 k1 t1036 t1035 (wrap64 (x7_1 + 1))) else (some (x0_1, x7_1))) else (some (x0_1, x7_1))) = some (r1, r2) := H
   have A5 := Aside0.mk A50
   clear A50
   by_cases c6 : t1037.toList = ([48] : List UInt8)
   ·rw [if_pos c6] at H
    have c6b0 : (t1037.toList == ([48] : List UInt8)) = true := beq_iff_eq.mpr c6
    have c6b1 : (t1037.toList != ([48] : List UInt8)) = false := bne_eq_false_iff_eq.mpr c6
    clear c6
    by_cases c7 : t1038 = 0
    ·rw [if_pos c7] at H
     have c7b0 : (t1038 == 0) = true := beq_iff_eq.mpr c7
     have c7b1 : (t1038 != 0) = false := bne_eq_false_iff_eq.mpr c7
     clear c7
     have H' := Aside0.mk H
     clear H
     go_wp2_with (first | ((with_reducible refine gate_callee (f := 122) rfl ?_); refine goesL_ (some 18) rfl rfl Tryz.func122 (by kernel_rfl) rfl #[.string x0_1, .string t1035] rfl (by (try simp only [List.map_toArray, List.map_cons, List.map_nil]); first | done | rfl | (simp only [List.length_drop, List.length_take]; rfl)) ?_; (with_reducible refine (whole_DivMod.calls k1 x0_1 t1035 t1036 t1037 t1038 _ ?side1 A5.out).mono ?_); (case side1 => refine TabW.below hT ?_; repeat (first | (with_reducible first | exact HB.out | apply below_alloc | apply pw_below_drewN | apply below_drew1) | exact HB.out)); rintro e w8 ⟨rfl, hb⟩; refine ⟨_, rfl, ?_⟩; have n0_ := Aside0.mk (below_step (by repeat (first | (with_reducible first | exact HB.out | apply below_alloc | apply pw_below_drewN | apply below_drew1) | exact HB.out)) hb); clear HB; have HB := n0_; clear n0_; (try clear hb); (try clear hb2); (try clear hk); (try clear hi)))
     go_roundg k1
     case measure => have := HK1.out; omega
     case rel => exact ⟨(t1036), (wrap64 (x7_1 + 1)), (by first | rfl | (simp; done) | (simp [*]; done)), (by first | rfl | (simp; done) | (simp [*]; done)), H', ⟨by have := HK1.out; omega⟩, ⟨by repeat (first | (with_reducible first | exact HB.out | apply below_alloc | apply pw_below_drewN | apply below_drew1) | exact HB.out)⟩⟩
    ·rw [if_neg c7] at H
     have c7b0 : (t1038 == 0) = false := beq_eq_false_iff_ne.mpr c7
     have c7b1 : (t1038 != 0) = true := bne_iff_ne.mpr c7
     simp only [Option.some.injEq, Prod.mk.injEq] at H
     obtain ⟨rfl, rfl⟩ := H
     go_wp2_with (first | ((with_reducible refine gate_callee (f := 122) rfl ?_); refine goesL_ (some 18) rfl rfl Tryz.func122 (by kernel_rfl) rfl #[.string x0_1, .string t1035] rfl (by (try simp only [List.map_toArray, List.map_cons, List.map_nil]); first | done | rfl | (simp only [List.length_drop, List.length_take]; rfl)) ?_; (with_reducible refine (whole_DivMod.calls k1 x0_1 t1035 t1036 t1037 t1038 _ ?side1 A5.out).mono ?_); (case side1 => refine TabW.below hT ?_; repeat (first | (with_reducible first | exact HB.out | apply below_alloc | apply pw_below_drewN | apply below_drew1) | exact HB.out)); rintro e w9 ⟨rfl, hb⟩; refine ⟨_, rfl, ?_⟩; have n0_ := Aside0.mk (below_step (by repeat (first | (with_reducible first | exact HB.out | apply below_alloc | apply pw_below_drewN | apply below_drew1) | exact HB.out)) hb); clear HB; have HB := n0_; clear n0_; (try clear hb); (try clear hb2); (try clear hk); (try clear hi)))
     go_ret2
     exact ⟨by first | rfl | (simp [errW_none, errW_some] <;> rfl) | (simp [*, errW_none, errW_some] <;> rfl), by repeat (first | (with_reducible first | exact HB.out | apply below_alloc | apply pw_below_drewN | apply below_drew1) | exact HB.out)⟩
   ·rw [if_neg c6] at H
    have c6b0 : (t1037.toList == ([48] : List UInt8)) = false := beq_eq_false_iff_ne.mpr c6
    have c6b1 : (t1037.toList != ([48] : List UInt8)) = true := bne_iff_ne.mpr c6
    simp only [Option.some.injEq, Prod.mk.injEq] at H
    obtain ⟨rfl, rfl⟩ := H
    go_wp2_with (first | ((with_reducible refine gate_callee (f := 122) rfl ?_); refine goesL_ (some 18) rfl rfl Tryz.func122 (by kernel_rfl) rfl #[.string x0_1, .string t1035] rfl (by (try simp only [List.map_toArray, List.map_cons, List.map_nil]); first | done | rfl | (simp only [List.length_drop, List.length_take]; rfl)) ?_; (with_reducible refine (whole_DivMod.calls k1 x0_1 t1035 t1036 t1037 t1038 _ ?side1 A5.out).mono ?_); (case side1 => refine TabW.below hT ?_; repeat (first | (with_reducible first | exact HB.out | apply below_alloc | apply pw_below_drewN | apply below_drew1) | exact HB.out)); rintro e w10 ⟨rfl, hb⟩; refine ⟨_, rfl, ?_⟩; have n0_ := Aside0.mk (below_step (by repeat (first | (with_reducible first | exact HB.out | apply below_alloc | apply pw_below_drewN | apply below_drew1) | exact HB.out)) hb); clear HB; have HB := n0_; clear n0_; (try clear hb); (try clear hb2); (try clear hk); (try clear hi)))
    go_ret2
    exact ⟨by first | rfl | (simp [errW_none, errW_some] <;> rfl) | (simp [*, errW_none, errW_some] <;> rfl), by repeat (first | (with_reducible first | exact HB.out | apply below_alloc | apply pw_below_drewN | apply below_drew1) | exact HB.out)⟩
end Go.Proofs.YtccebdpjdpjgnaaGreatDoor.P
end
