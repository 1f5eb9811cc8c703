/-
parts of the walks and of the plain laws: Pdecimalpiecescompare Pdecimalpiecesback
-/
import Derived.Test.YtccebdpjdpjgnaaGreatDoorBL06
set_option linter.unusedVariables false
set_option linter.unusedSimpArgs false
section
namespace Go.Proofs.YtccebdpjdpjgnaaGreatDoor.P
open Go.RowKit Go.Proofs.YtccebdpjdpjgnaaGreatDoorW.PrintWords Go.Proofs.YtccebdpjdpjgnaaGreatDoorW.PrintLast Go.Proofs.YtccebdpjdpjgnaaGreatDoorW.PrintMore
attribute [local go_sem] max2_int min2_int max_two min_two max_three min_three max_four min_four
def decimal_pieces_compare.l0 : Nat → List Int → List Int → Int → Option (Int)
 | 0, _, _, _ => none
 | k + 1, x0, x1, x5 => if x5 ≥ 0 then (if 0 ≤ x5 then (if x5 < (x0.length : Int) then (if x5 < (x1.length : Int) then (if (rd x0 x5) < (rd x1 x5) then (some (-1)) else (if (rd x0 x5) > (rd x1 x5) then (some 1) else (decimal_pieces_compare.l0 k x0 x1 (wrap64 (x5 - 1))))) else (none)) else (none)) else (none)) else (some 0)
def decimal_pieces_compare.f (k : Nat) (l0 : List Int) (l1 : List Int) : Option (Int) := if (l0.length : Int) = (l1.length : Int) then (decimal_pieces_compare.l0 k l0 l1 (wrap64 ((l0.length : Int) - 1))) else (some (mn 1 (mx (-1) (wrap64 ((l0.length : Int) - (l1.length : Int))))))
theorem decimal_pieces_compare.mono_l : ∀ k, (∀ y0 y1 y2, LeO (decimal_pieces_compare.l0 k y0 y1 y2) (decimal_pieces_compare.l0 (k + 1) y0 y1 y2))
 | 0 => fun _ _ _ r h => by simp [decimal_pieces_compare.l0] at h
 | k + 1 => by
  have ih0 := decimal_pieces_compare.mono_l k
  ·intro y0 y1 y2
   unfold decimal_pieces_compare.l0
   repeat' first
   | (with_reducible exact ih0 _ _ _)
   | (with_reducible exact LeO.refl _)
   | (with_reducible exact LeO.none _)
   | (with_reducible refine LeO.ite ?_ ?_)
   | (with_reducible refine LeO.bind ?_ (fun _ => ?_))
theorem decimal_pieces_compare.mono : ∀ a0 a1 k, LeO (decimal_pieces_compare.f k a0 a1) (decimal_pieces_compare.f (k + 1) a0 a1) := by
 intro a0 a1 k
 have ih0 := decimal_pieces_compare.mono_l k
 unfold decimal_pieces_compare.f
 repeat' first
   | (with_reducible exact ih0 _ _ _)
   | (with_reducible exact LeO.refl _)
   | (with_reducible exact LeO.none _)
   | (with_reducible refine LeO.ite ?_ ?_)
   | (with_reducible refine LeO.bind ?_ (fun _ => ?_))
set_option maxHeartbeats 8000000 in
set_option maxRecDepth 100000 in
theorem decimal_pieces_compare.calls (k : Nat) (A0 : Option Addr) (c0 : Nat) (l0 : List Int) (A1 : Option Addr) (c1 : Nat) (l1 : List Int) (r : Int) (w : World) (hr0 : Kd.C (Kd.int .u64) w A0 l0.length l0) (hc0 : l0.length ≤ c0) (hr1 : Kd.C (Kd.int .u64) w A1 l1.length l1) (hc1 : l1.length ≤ c1) (h : decimal_pieces_compare.f k l0 l1 = some r) :
  Calls Tryz.prog 223 #[.slice A0 l0.length c0, .slice A1 l1.length c1] w fun e w' => e = .returned (.int .i64 r) ∧ Below w.heap.size w w' := by
 have HR0 := Aside0.mk hr0
 have HC0 := Aside0.mk hc0
 clear hr0 hc0
 have HR1 := Aside0.mk hr1
 have HC1 := Aside0.mk hc1
 clear hr1 hc1
 have HB := Aside0.mk (Below.refl w.heap.size w)
 have H : (if (l0.length : Int) = (l1.length : Int) then (decimal_pieces_compare.l0 k l0 l1 (wrap64 ((l0.length : Int) - 1))) else (some (mn 1 (mx (-1) (wrap64 ((l0.length : Int) - (l1.length : Int))))))) = some r := h
 clear h
 by_cases c3 : (l0.length : Int) = (l1.length : Int)
 ·rw [if_pos c3] at H
  have c3b0 : ((l0.length : Int) == (l1.length : Int)) = true := beq_iff_eq.mpr c3
  have c3b1 : ((l0.length : Int) != (l1.length : Int)) = false := bne_eq_false_iff_eq.mpr c3
  have c3b2 : (l0.length == l1.length) = true := by first | simpa using c3 | (simp at c3 ⊢; omega)
  clear c3
  have H' := Aside0.mk H
  clear H
  go_enter Tryz.func223, Tryz.ntmps223
  go_wp2
  repeat (go_quiet (fail); try go_wp2)
  go_loopg [5] k (fun kq v5 w' => ∃ (x5_1 : Int), v5 = .int .i64 x5_1 ∧ Aside0 (decimal_pieces_compare.l0 kq l0 l1 x5_1 = some r) ∧ Aside0 (kq ≤ k) ∧ Aside0 (Below w.heap.size w w'))
  case atStart => exact ⟨(wrap64 ((l0.length : Int) - 1)), (by first | rfl | (simp; done) | (simp [*]; done)), H', ⟨Nat.le_refl _⟩, ⟨by apply_rules [HB.out, below_alloc, pw_below_drewN, below_drew1]⟩⟩
  case round =>
   clear H'
   obtain ⟨x5_1, rfl, HA, HK1, HB⟩ := hrel
   cases gk with
   | zero => exact absurd HA.out (by simp [decimal_pieces_compare.l0])
   | succ k1 =>
    have H := HA.out
    clear HA
    simp only [decimal_pieces_compare.l0] at H
    by_cases c4 : x5_1 ≥ 0
    ·rw [if_pos c4] at H
     have c4b0 : decide (0 ≤ x5_1) = true := decide_eq_true c4
     clear c4
     by_cases c5 : 0 ≤ x5_1
     case neg => rw [if_neg c5] at H; exact absurd H (by simp)
     rw [if_pos c5] at H
     have c5b0 : decide (0 ≤ x5_1) = true := decide_eq_true c5
     clear c5
     by_cases c6 : x5_1 < (l0.length : Int)
     case neg => rw [if_neg c6] at H; exact absurd H (by simp)
     rw [if_pos c6] at H
     have c6b0 : decide (x5_1 < (l0.length : Int)) = true := decide_eq_true c6
     clear c6
     by_cases c7 : x5_1 < (l1.length : Int)
     case neg => rw [if_neg c7] at H; exact absurd H (by simp)
     rw [if_pos c7] at H
     have c7b0 : decide (x5_1 < (l1.length : Int)) = true := decide_eq_true c7
     clear c7
     by_cases c8 : (rd l0 x5_1) < (rd l1 x5_1)
     ·rw [if_pos c8] at H
      have c8b0 : decide ((rd l0 x5_1) < (rd l1 x5_1)) = true := decide_eq_true c8
      clear c8
      obtain rfl := Option.some.inj H
      have p176 : 0 ≤ (x5_1 : Int) := of_decide_eq_true (by assumption)
      have q176 : x5_1 < (l0.length : Int) := of_decide_eq_true (by assumption)
      obtain ⟨ad176, e176, hx176_0⟩ := Kd.at_int HR0.out x5_1 p176 q176
      cases e176
      replace hx176_0 := (HB.out.cell (World.block_lt_of_cell? w _ hx176_0)).trans hx176_0
      replace p176 := eq_true p176
      replace q176 := eq_true q176
      have p177 : 0 ≤ (x5_1 : Int) := of_decide_eq_true (by assumption)
      have q177 : x5_1 < (l1.length : Int) := of_decide_eq_true (by assumption)
      obtain ⟨ad177, e177, hx177_0⟩ := Kd.at_int HR1.out x5_1 p177 q177
      cases e177
      replace hx177_0 := (HB.out.cell (World.block_lt_of_cell? w _ hx177_0)).trans hx177_0
      replace p177 := eq_true p177
      replace q177 := eq_true q177
      go_wp2
      repeat (go_quiet (fail); try go_wp2)
      go_ret
      exact ⟨by first | rfl | simp [*], by apply_rules [HB.out, below_alloc, pw_below_drewN, below_drew1]⟩
     ·rw [if_neg c8] at H
      have c8b0 : decide ((rd l0 x5_1) < (rd l1 x5_1)) = false := decide_eq_false c8
      clear c8
      by_cases c9 : (rd l0 x5_1) > (rd l1 x5_1)
      ·rw [if_pos c9] at H
       have c9b0 : decide ((rd l1 x5_1) < (rd l0 x5_1)) = true := decide_eq_true c9
       clear c9
       obtain rfl := Option.some.inj H
       have p176 : 0 ≤ (x5_1 : Int) := of_decide_eq_true (by assumption)
       have q176 : x5_1 < (l0.length : Int) := of_decide_eq_true (by assumption)
       obtain ⟨ad176, e176, hx176_0⟩ := Kd.at_int HR0.out x5_1 p176 q176
       cases e176
       replace hx176_0 := (HB.out.cell (World.block_lt_of_cell? w _ hx176_0)).trans hx176_0
       replace p176 := eq_true p176
       replace q176 := eq_true q176
       have p177 : 0 ≤ (x5_1 : Int) := of_decide_eq_true (by assumption)
       have q177 : x5_1 < (l1.length : Int) := of_decide_eq_true (by assumption)
       obtain ⟨ad177, e177, hx177_0⟩ := Kd.at_int HR1.out x5_1 p177 q177
       cases e177
       replace hx177_0 := (HB.out.cell (World.block_lt_of_cell? w _ hx177_0)).trans hx177_0
       replace p177 := eq_true p177
       replace q177 := eq_true q177
       have p178 : 0 ≤ (x5_1 : Int) := of_decide_eq_true (by assumption)
       have q178 : x5_1 < (l0.length : Int) := of_decide_eq_true (by assumption)
       obtain ⟨ad178, e178, hx178_0⟩ := Kd.at_int HR0.out x5_1 p178 q178
       obtain rfl : ad176 = ad178 := (by injection e178)
       replace hx178_0 := (HB.out.cell (World.block_lt_of_cell? w _ hx178_0)).trans hx178_0
       replace p178 := eq_true p178
       replace q178 := eq_true q178
       have p179 : 0 ≤ (x5_1 : Int) := of_decide_eq_true (by assumption)
       have q179 : x5_1 < (l1.length : Int) := of_decide_eq_true (by assumption)
       obtain ⟨ad179, e179, hx179_0⟩ := Kd.at_int HR1.out x5_1 p179 q179
       obtain rfl : ad177 = ad179 := (by injection e179)
       replace hx179_0 := (HB.out.cell (World.block_lt_of_cell? w _ hx179_0)).trans hx179_0
       replace p179 := eq_true p179
       replace q179 := eq_true q179
       go_wp2
       repeat (go_quiet (fail); try go_wp2)
       go_ret
       exact ⟨by first | rfl | simp [*], by apply_rules [HB.out, below_alloc, pw_below_drewN, below_drew1]⟩
      ·rw [if_neg c9] at H
       have c9b0 : decide ((rd l1 x5_1) < (rd l0 x5_1)) = false := decide_eq_false c9
       clear c9
       have H' := Aside0.mk H
       clear H
       have p176 : 0 ≤ (x5_1 : Int) := of_decide_eq_true (by assumption)
       have q176 : x5_1 < (l0.length : Int) := of_decide_eq_true (by assumption)
       obtain ⟨ad176, e176, hx176_0⟩ := Kd.at_int HR0.out x5_1 p176 q176
       cases e176
       replace hx176_0 := (HB.out.cell (World.block_lt_of_cell? w _ hx176_0)).trans hx176_0
       replace p176 := eq_true p176
       replace q176 := eq_true q176
       have p177 : 0 ≤ (x5_1 : Int) := of_decide_eq_true (by assumption)
       have q177 : x5_1 < (l1.length : Int) := of_decide_eq_true (by assumption)
       obtain ⟨ad177, e177, hx177_0⟩ := Kd.at_int HR1.out x5_1 p177 q177
       cases e177
       replace hx177_0 := (HB.out.cell (World.block_lt_of_cell? w _ hx177_0)).trans hx177_0
       replace p177 := eq_true p177
       replace q177 := eq_true q177
       have p178 : 0 ≤ (x5_1 : Int) := of_decide_eq_true (by assumption)
       have q178 : x5_1 < (l0.length : Int) := of_decide_eq_true (by assumption)
       obtain ⟨ad178, e178, hx178_0⟩ := Kd.at_int HR0.out x5_1 p178 q178
       obtain rfl : ad176 = ad178 := (by injection e178)
       replace hx178_0 := (HB.out.cell (World.block_lt_of_cell? w _ hx178_0)).trans hx178_0
       replace p178 := eq_true p178
       replace q178 := eq_true q178
       have p179 : 0 ≤ (x5_1 : Int) := of_decide_eq_true (by assumption)
       have q179 : x5_1 < (l1.length : Int) := of_decide_eq_true (by assumption)
       obtain ⟨ad179, e179, hx179_0⟩ := Kd.at_int HR1.out x5_1 p179 q179
       obtain rfl : ad177 = ad179 := (by injection e179)
       replace hx179_0 := (HB.out.cell (World.block_lt_of_cell? w _ hx179_0)).trans hx179_0
       replace p179 := eq_true p179
       replace q179 := eq_true q179
       go_wp2
       repeat (go_quiet (fail); try go_wp2)
       go_roundg k1
       case measure => have := HK1.out; omega
       case rel => exact ⟨(wrap64 (x5_1 - 1)), (by first | rfl | (simp; done) | (simp [*]; done)), H', ⟨by have := HK1.out; omega⟩, ⟨by apply_rules [HB.out, below_alloc, pw_below_drewN, below_drew1]⟩⟩
    ·rw [if_neg c4] at H
     have c4b0 : decide (0 ≤ x5_1) = false := decide_eq_false c4
     clear c4
     obtain rfl := Option.some.inj H
     go_wp2
     repeat (go_quiet (fail); try go_wp2)
     go_ret
     exact ⟨by first | rfl | simp [*], by apply_rules [HB.out, below_alloc, pw_below_drewN, below_drew1]⟩
 ·rw [if_neg c3] at H
  have c3b0 : ((l0.length : Int) == (l1.length : Int)) = false := beq_eq_false_iff_ne.mpr c3
  have c3b1 : ((l0.length : Int) != (l1.length : Int)) = true := bne_iff_ne.mpr c3
  have c3b2 : (l0.length == l1.length) = false := by first | simpa using c3 | (simp at c3 ⊢; omega)
  obtain ⟨ji10, hji10⟩ : ∃ j_ : Int, (mx (-1) (wrap64 ((l0.length : Int) - (l1.length : Int)))) = j_ := ⟨_, rfl⟩
  replace H : (some (mn 1 (ji10))) = some r := by first | (rw [hji10] at H; exact H) | (simp only [hji10] at H ⊢; exact H)
  have hji10_ : (if (-1) < (wrap64 ((l0.length : Int) - (l1.length : Int))) then (wrap64 ((l0.length : Int) - (l1.length : Int))) else (-1)) = ji10 := hji10
  obtain ⟨ji11, hji11⟩ : ∃ j_ : Int, (mn 1 (ji10)) = j_ := ⟨_, rfl⟩
  replace H : (some ji11) = some r := by first | (rw [hji11] at H; exact H) | (simp only [hji11] at H ⊢; exact H)
  have hji11_ : (if (ji10) < 1 then (ji10) else 1) = ji11 := hji11
  obtain rfl := Option.some.inj H
  go_enter Tryz.func223, Tryz.ntmps223
  go_wp2
  repeat (go_quiet (fail); try go_wp2)
  go_ret
  exact ⟨by first | rfl | (simp [errW_none, errW_some] <;> rfl) | (simp only [← hji10, ← hji11]; first | rfl | (simp [errW_none, errW_some] <;> rfl)) | (simp [*, errW_none, errW_some] <;> rfl), by apply_rules [HB.out, below_alloc, pw_below_drewN, below_drew1]⟩
def decimal_pieces_back.l0 : Nat → List Int → List Int → Int → Int → Int → Option (List Int)
 | 0, _, _, _, _, _ => none
 | k + 1, x0, x1, x2, x6, x7 => if x7 ≤ (x1.length : Int) then (if 0 ≤ (wrap64 (x2 + x7)) then (if (wrap64 (x2 + x7)) < (x0.length : Int) then (if x7 < (x1.length : Int) then (if 0 ≤ x7 then (decimal_pieces_back.l0 k (x0.set ((wrap64 (x2 + x7)) : Int).toNat (Int.tmod (IntKind.u64.wrap ((IntKind.u64.wrap (x6 + (rd x0 (wrap64 (x2 + x7))))) + (rd x1 x7))) 1000000000)) x1 x2 (IntKind.u64.wrap (Int.tdiv (IntKind.u64.wrap ((IntKind.u64.wrap (x6 + (rd x0 (wrap64 (x2 + x7))))) + (rd x1 x7))) 1000000000)) (wrap64 (x7 + 1))) else (none)) else (decimal_pieces_back.l0 k (x0.set ((wrap64 (x2 + x7)) : Int).toNat (Int.tmod (IntKind.u64.wrap (x6 + (rd x0 (wrap64 (x2 + x7))))) 1000000000)) x1 x2 (IntKind.u64.wrap (Int.tdiv (IntKind.u64.wrap (x6 + (rd x0 (wrap64 (x2 + x7))))) 1000000000)) (wrap64 (x7 + 1)))) else (none)) else (none)) else (some x0)
def decimal_pieces_back.f (k : Nat) (l0 : List Int) (l1 : List Int) (a2 : Int) : Option (List Int) := decimal_pieces_back.l0 k l0 l1 a2 0 0
theorem decimal_pieces_back.mono_l : ∀ k, (∀ y0 y1 y2 y3 y4, LeO (decimal_pieces_back.l0 k y0 y1 y2 y3 y4) (decimal_pieces_back.l0 (k + 1) y0 y1 y2 y3 y4))
 | 0 => fun _ _ _ _ _ r h => by simp [decimal_pieces_back.l0] at h
 | k + 1 => by
  have ih0 := decimal_pieces_back.mono_l k
  ·intro y0 y1 y2 y3 y4
   unfold decimal_pieces_back.l0
   repeat' first
   | (with_reducible exact ih0 _ _ _ _ _)
   | (with_reducible exact LeO.refl _)
   | (with_reducible exact LeO.none _)
   | (with_reducible refine LeO.ite ?_ ?_)
   | (with_reducible refine LeO.bind ?_ (fun _ => ?_))
theorem decimal_pieces_back.mono : ∀ a0 a1 a2 k, LeO (decimal_pieces_back.f k a0 a1 a2) (decimal_pieces_back.f (k + 1) a0 a1 a2) := by
 intro a0 a1 a2 k
 have ih0 := decimal_pieces_back.mono_l k
 unfold decimal_pieces_back.f
 repeat' first
   | (with_reducible exact ih0 _ _ _ _ _)
   | (with_reducible exact LeO.refl _)
   | (with_reducible exact LeO.none _)
   | (with_reducible refine LeO.ite ?_ ?_)
   | (with_reducible refine LeO.bind ?_ (fun _ => ?_))
set_option maxHeartbeats 8000000 in
set_option maxRecDepth 100000 in
theorem decimal_pieces_back.calls (k : Nat) (P0_ : Nat → Prop) (u9000_ : Value) (l0 : List Int) (A1 : Option Addr) (c1 : Nat) (l1 : List Int) (a2 : Int) (r : List Int) (w0 w : World) (hB : Below w0.heap.size w0 w) (ho0 : Kd.R (Kd.int .u64) 139 w w0.heap.size P0_ u9000_ l0) (hr1 : ∀ W_, Kept w W_ (fun k_ => P0_ k_) → Kd.C (Kd.int .u64) W_ A1 l1.length l1) (hc1 : l1.length ≤ c1) (h : decimal_pieces_back.f k l0 l1 a2 = some r) :
  Calls Tryz.prog 176 #[u9000_, .slice A1 l1.length c1, .int .i64 a2] w fun e w' => e = .returned (.tuple #[]) ∧ Kd.R (Kd.int .u64) 139 w' w0.heap.size (fun k_ => (P0_ k_ ∨ w.heap.size ≤ k_)) u9000_ r ∧ Below w0.heap.size w0 w' ∧ Kept w w' (fun k_ => P0_ k_) := by
 have HO0 := Aside0.mk (show Kd.R (Kd.int .u64) 139 w w0.heap.size (fun k_ => (P0_ k_ ∨ w.heap.size ≤ k_)) u9000_ l0 from Kd.R_mono ho0 (fun k_ hk => (.inl hk)))
 have HR1 := Aside0.mk hr1
 have HC1 := Aside0.mk hc1
 clear hr1 hc1
 have HK := Aside0.mk (Kept.refl w (fun k_ => P0_ k_))
 have HW0 := Aside0.mk hB.size
 have HB := Aside0.mk hB
 clear hB
 have H : (decimal_pieces_back.l0 k l0 l1 a2 0 0) = some r := h
 clear h
 have H' := Aside0.mk H
 clear H
 go_enter Tryz.func176, Tryz.ntmps176
 go_wp2
 go_loopg [6, 7] k (fun kq v6 v7 w' => ∃ (x0_1 : List Int) (x6_1 : Int) (x7_1 : Int), v6 = .int .u64 x6_1 ∧ v7 = .int .i64 x7_1 ∧ Aside0 (decimal_pieces_back.l0 kq x0_1 l1 a2 x6_1 x7_1 = some r) ∧ Aside0 (kq ≤ k) ∧ Aside0 (Kd.R (Kd.int .u64) 139 w' w0.heap.size (fun k_ => (P0_ k_ ∨ w.heap.size ≤ k_)) u9000_ x0_1) ∧ Aside0 (Kept w w' (fun k_ => P0_ k_)) ∧ Aside0 (Below w0.heap.size w0 w'))
 case atStart => exact ⟨(l0), (0), (0), (by first | rfl | (simp; done) | (simp [*]; done)), (by first | rfl | (simp; done) | (simp [*]; done)), H', ⟨Nat.le_refl _⟩, ⟨by apply_rules [HO0.out, Kd.R_alloc, Kd.R_drewN, Kd.R_drew]⟩, ⟨by repeat (first | (with_reducible first | exact HK.out | apply Kept.alloc | apply Kept.drewN | apply Kept.drew) | exact HK.out)⟩, ⟨by apply_rules [HB.out, below_alloc, pw_below_drewN, below_drew1]⟩⟩
 case round =>
  clear H'
  obtain ⟨x0_1, x6_1, x7_1, rfl, rfl, HA, HK1, HO_0, HK, HB⟩ := hrel
  cases gk with
  | zero => exact absurd HA.out (by simp [decimal_pieces_back.l0])
  | succ k1 =>
   have H := HA.out
   clear HA
   simp only [decimal_pieces_back.l0] at H
   by_cases c4 : x7_1 ≤ (l1.length : Int)
   ·rw [if_pos c4] at H
    have c4b0 : decide (x7_1 ≤ (l1.length : Int)) = true := decide_eq_true c4
    clear c4
    obtain ⟨ji5, hji5⟩ : ∃ j_ : Int, (wrap64 (a2 + x7_1)) = j_ := ⟨_, rfl⟩
    replace H : (if 0 ≤ (ji5) then (if (ji5) < (x0_1.length : Int) then (if x7_1 < (l1.length : Int) then (if 0 ≤ x7_1 then (decimal_pieces_back.l0 k1 (x0_1.set ((ji5) : Int).toNat (Int.tmod (IntKind.u64.wrap ((IntKind.u64.wrap (x6_1 + (rd x0_1 (ji5)))) + (rd l1 x7_1))) 1000000000)) l1 a2 (IntKind.u64.wrap (Int.tdiv (IntKind.u64.wrap ((IntKind.u64.wrap (x6_1 + (rd x0_1 (ji5)))) + (rd l1 x7_1))) 1000000000)) (wrap64 (x7_1 + 1))) else (none)) else (decimal_pieces_back.l0 k1 (x0_1.set ((ji5) : Int).toNat (Int.tmod (IntKind.u64.wrap (x6_1 + (rd x0_1 (ji5)))) 1000000000)) l1 a2 (IntKind.u64.wrap (Int.tdiv (IntKind.u64.wrap (x6_1 + (rd x0_1 (ji5)))) 1000000000)) (wrap64 (x7_1 + 1)))) else (none)) else (none)) = some r := by first | (rw [hji5] at H; exact H) | (simp only [hji5] at H ⊢; exact H)
    have hji5w : (IntKind.i64.wrap (a2 + x7_1)) = ji5 := (i64_w _).trans hji5
    by_cases c6 : 0 ≤ (ji5)
    case neg => rw [if_neg c6] at H; exact absurd H (by simp)
    rw [if_pos c6] at H
    have c6b0 : decide (0 ≤ (ji5)) = true := decide_eq_true c6
    clear c6
    by_cases c7 : (ji5) < (x0_1.length : Int)
    case neg => rw [if_neg c7] at H; exact absurd H (by simp)
    rw [if_pos c7] at H
    have c7b0 : decide ((ji5) < (x0_1.length : Int)) = true := decide_eq_true c7
    clear c7
    by_cases c8 : x7_1 < (l1.length : Int)
    ·rw [if_pos c8] at H
     have c8b0 : decide (x7_1 < (l1.length : Int)) = true := decide_eq_true c8
     clear c8
     by_cases c9 : 0 ≤ x7_1
     case neg => rw [if_neg c9] at H; exact absurd H (by simp)
     rw [if_pos c9] at H
     have c9b0 : decide (0 ≤ x7_1) = true := decide_eq_true c9
     clear c9
     obtain ⟨y190, hy190⟩ : ∃ y_ : List Int, y_ = (x0_1.set ((ji5) : Int).toNat (Int.tmod (IntKind.u64.wrap ((IntKind.u64.wrap (x6_1 + (rd x0_1 (ji5)))) + (rd l1 x7_1))) 1000000000)) := ⟨_, rfl⟩
     replace H : (decimal_pieces_back.l0 k1 y190 l1 a2 (IntKind.u64.wrap (Int.tdiv (IntKind.u64.wrap ((IntKind.u64.wrap (x6_1 + (rd x0_1 (ji5)))) + (rd l1 x7_1))) 1000000000)) (wrap64 (x7_1 + 1))) = some r := by first | (rw [hy190]; with_reducible exact H) | (have H2_ := (Option.bind_some _ _).symm.trans H; rw [hy190]; with_reducible exact H2_) | (have H2_ := (Option.bind_some _ _).symm.trans H; with_reducible exact H2_) | with_reducible exact H | (rw [hy190]; exact H) | exact H
     have Ny190 := Aside0.mk hy190
     clear hy190
     have H' := Aside0.mk H
     clear H
     obtain ⟨Ao11, co11, eo11⟩ := Kd.R_slice HO_0.out
     subst eo11
     have p188 : 0 ≤ ((ji5) : Int) := of_decide_eq_true (by assumption)
     have q188 : (ji5) < (x0_1.length : Int) := of_decide_eq_true (by assumption)
     obtain ⟨ad188, e188, hx188_0⟩ := Kd.at_int (Kd.R_reads' HO_0.out).2.2 (ji5) p188 q188
     cases e188
     replace p188 := eq_true p188
     replace q188 := eq_true q188
     have p189 : 0 ≤ (x7_1 : Int) := of_decide_eq_true (by assumption)
     have q189 : x7_1 < (l1.length : Int) := of_decide_eq_true (by assumption)
     obtain ⟨ad189, e189, hx189_0⟩ := Kd.at_int (Kd.C_kept_now HR1.out HK.out) x7_1 p189 q189
     cases e189
     replace p189 := eq_true p189
     replace q189 := eq_true q189
     have p10 : 0 ≤ ((ji5) : Int) := of_decide_eq_true (by assumption)
     have q10 : ((ji5) : Int) < ((x0_1.length : Int) : Int) := of_decide_eq_true (by assumption)
     obtain ⟨go10, co10, eo10, gb10, gl10, cl10, HG10⟩ := Kd.R_form HO_0.out (by omega)
     (first | cases eo10 | (injection eo10 with ea_ en_ ec_; (first | subst ea_ | (injection ea_ with ea_; subst ea_)); subst ec_; clear en_))
     have GB10 := Aside0.mk gb10
     have GG10 := Aside0.mk HG10
     clear gb10 gl10 HG10
     have HMgo10 := Aside0.mk (show (P0_ go10 ∨ w.heap.size ≤ go10) from (HO_0.out.1 _ rfl))
     (first | simp only [add_plain] at hx188_0 | skip)
     obtain ⟨hx10_0, hf10_0⟩ := Kd.R_celln 0 HO_0.out ((ji5) : Int) p10 q10
     replace p10 := eq_true p10
     replace q10 := eq_true q10
     have HP12 := Kd.R_putg HO_0.out ((ji5) : Int) (Int.tmod (IntKind.u64.wrap ((IntKind.u64.wrap (x6_1 + (rd x0_1 (ji5)))) + (rd l1 x7_1))) 1000000000)
     go_wp2_with (first | ((with_reducible refine gate_store (t := 139) (p := 38) rfl ?_); refine store_event (t := 139) (p := 38) (v := ?vo_w13) (w1 := (wr.setCell ⟨go10, ((ji5) : Int).toNat, none⟩ (.int .u64 (Int.tmod (IntKind.u64.wrap ((IntKind.u64.wrap (x6_1 + (rd x0_1 (ji5)))) + (rd l1 x7_1))) 1000000000)))) ?hg ?ho ?hn ?hr ?_; (case ho => rfl); (case hg => rfl); (case hn => rfl); (case hr => go_simp; try rfl); intro w13 hw; have hg : wr.grownBy w13 (some go10) := (by rw [hw]; exact HP12.2); have hp_ : Kd.R (Kd.int .u64) 139 w13 w0.heap.size (fun k_ => (P0_ k_ ∨ w.heap.size ≤ k_)) (.slice (some ⟨go10, 0, none⟩) x0_1.length co11) y190 := (by rw [hw, Ny190.out]; exact HP12.1); clear HP12; have n0_ := Aside0.mk (hp_); have n1_ := Aside0.mk ((by rw [hw]; exact below_set (HB.out) GB10.out : Below w0.heap.size w0 w13)); have n2_ := Aside0.mk (Kept.of_grown (S := (fun k_ => P0_ k_)) hg (by repeat (first | (with_reducible first | exact HK.out | apply Kept.alloc | apply Kept.drewN | apply Kept.drew) | exact HK.out)) (fun k_ e_ => (HO_0.out.1 k_ e_))); clear HO_0; clear HB; clear HK; have HO_0 := n0_; have HB := n1_; have HK := n2_; clear n0_ n1_ n2_; clear hg hw hp_))
     go_roundg k1
     case measure => have := HK1.out; omega
     case rel => exact ⟨(y190), (IntKind.u64.wrap (Int.tdiv (IntKind.u64.wrap ((IntKind.u64.wrap (x6_1 + (rd x0_1 (ji5)))) + (rd l1 x7_1))) 1000000000)), (wrap64 (x7_1 + 1)), (by first | rfl | (simp; done) | (simp only [← hji5] <;> (first | rfl | simp)) | (simp [*]; done)), (by first | rfl | (simp; done) | (simp [*]; done)), H', ⟨by have := HK1.out; omega⟩, ⟨by apply_rules [HO_0.out, Kd.R_alloc, Kd.R_drewN, Kd.R_drew]⟩, ⟨by repeat (first | (with_reducible first | exact HK.out | apply Kept.alloc | apply Kept.drewN | apply Kept.drew) | exact HK.out)⟩, ⟨by apply_rules [HB.out, below_alloc, pw_below_drewN, below_drew1]⟩⟩
    ·rw [if_neg c8] at H
     have c8b0 : decide (x7_1 < (l1.length : Int)) = false := decide_eq_false c8
     clear c8
     obtain ⟨y191, hy191⟩ : ∃ y_ : List Int, y_ = (x0_1.set ((ji5) : Int).toNat (Int.tmod (IntKind.u64.wrap (x6_1 + (rd x0_1 (ji5)))) 1000000000)) := ⟨_, rfl⟩
     replace H : (decimal_pieces_back.l0 k1 y191 l1 a2 (IntKind.u64.wrap (Int.tdiv (IntKind.u64.wrap (x6_1 + (rd x0_1 (ji5)))) 1000000000)) (wrap64 (x7_1 + 1))) = some r := by first | (rw [hy191]; with_reducible exact H) | (have H2_ := (Option.bind_some _ _).symm.trans H; rw [hy191]; with_reducible exact H2_) | (have H2_ := (Option.bind_some _ _).symm.trans H; with_reducible exact H2_) | with_reducible exact H | (rw [hy191]; exact H) | exact H
     have Ny191 := Aside0.mk hy191
     clear hy191
     have H' := Aside0.mk H
     clear H
     obtain ⟨Ao15, co15, eo15⟩ := Kd.R_slice HO_0.out
     subst eo15
     have p188 : 0 ≤ ((ji5) : Int) := of_decide_eq_true (by assumption)
     have q188 : (ji5) < (x0_1.length : Int) := of_decide_eq_true (by assumption)
     obtain ⟨ad188, e188, hx188_0⟩ := Kd.at_int (Kd.R_reads' HO_0.out).2.2 (ji5) p188 q188
     cases e188
     replace p188 := eq_true p188
     replace q188 := eq_true q188
     have p14 : 0 ≤ ((ji5) : Int) := of_decide_eq_true (by assumption)
     have q14 : ((ji5) : Int) < ((x0_1.length : Int) : Int) := of_decide_eq_true (by assumption)
     obtain ⟨go14, co14, eo14, gb14, gl14, cl14, HG14⟩ := Kd.R_form HO_0.out (by omega)
     (first | cases eo14 | (injection eo14 with ea_ en_ ec_; (first | subst ea_ | (injection ea_ with ea_; subst ea_)); subst ec_; clear en_))
     have GB14 := Aside0.mk gb14
     have GG14 := Aside0.mk HG14
     clear gb14 gl14 HG14
     have HMgo14 := Aside0.mk (show (P0_ go14 ∨ w.heap.size ≤ go14) from (HO_0.out.1 _ rfl))
     (first | simp only [add_plain] at hx188_0 | skip)
     obtain ⟨hx14_0, hf14_0⟩ := Kd.R_celln 0 HO_0.out ((ji5) : Int) p14 q14
     replace p14 := eq_true p14
     replace q14 := eq_true q14
     have HP16 := Kd.R_putg HO_0.out ((ji5) : Int) (Int.tmod (IntKind.u64.wrap (x6_1 + (rd x0_1 (ji5)))) 1000000000)
     go_wp2_with (first | ((with_reducible refine gate_store (t := 139) (p := 38) rfl ?_); refine store_event (t := 139) (p := 38) (v := ?vo_w17) (w1 := (wr.setCell ⟨go14, ((ji5) : Int).toNat, none⟩ (.int .u64 (Int.tmod (IntKind.u64.wrap (x6_1 + (rd x0_1 (ji5)))) 1000000000)))) ?hg ?ho ?hn ?hr ?_; (case ho => rfl); (case hg => rfl); (case hn => rfl); (case hr => go_simp; try rfl); intro w17 hw; have hg : wr.grownBy w17 (some go14) := (by rw [hw]; exact HP16.2); have hp_ : Kd.R (Kd.int .u64) 139 w17 w0.heap.size (fun k_ => (P0_ k_ ∨ w.heap.size ≤ k_)) (.slice (some ⟨go14, 0, none⟩) x0_1.length co15) y191 := (by rw [hw, Ny191.out]; exact HP16.1); clear HP16; have n0_ := Aside0.mk (hp_); have n1_ := Aside0.mk ((by rw [hw]; exact below_set (HB.out) GB14.out : Below w0.heap.size w0 w17)); have n2_ := Aside0.mk (Kept.of_grown (S := (fun k_ => P0_ k_)) hg (by repeat (first | (with_reducible first | exact HK.out | apply Kept.alloc | apply Kept.drewN | apply Kept.drew) | exact HK.out)) (fun k_ e_ => (HO_0.out.1 k_ e_))); clear HO_0; clear HB; clear HK; have HO_0 := n0_; have HB := n1_; have HK := n2_; clear n0_ n1_ n2_; clear hg hw hp_))
     go_roundg k1
     case measure => have := HK1.out; omega
     case rel => exact ⟨(y191), (IntKind.u64.wrap (Int.tdiv (IntKind.u64.wrap (x6_1 + (rd x0_1 (ji5)))) 1000000000)), (wrap64 (x7_1 + 1)), (by first | rfl | (simp; done) | (simp only [← hji5] <;> (first | rfl | simp)) | (simp [*]; done)), (by first | rfl | (simp; done) | (simp [*]; done)), H', ⟨by have := HK1.out; omega⟩, ⟨by apply_rules [HO_0.out, Kd.R_alloc, Kd.R_drewN, Kd.R_drew]⟩, ⟨by repeat (first | (with_reducible first | exact HK.out | apply Kept.alloc | apply Kept.drewN | apply Kept.drew) | exact HK.out)⟩, ⟨by apply_rules [HB.out, below_alloc, pw_below_drewN, below_drew1]⟩⟩
   ·rw [if_neg c4] at H
    have c4b0 : decide (x7_1 ≤ (l1.length : Int)) = false := decide_eq_false c4
    clear c4
    obtain rfl := Option.some.inj H
    go_wp2
    first | go_end0 | ((try simp only [Exit.inBlock, Exit.then]); refine bodyPost_ret (results_none rfl _ _ _) rfl ?_)
    exact ⟨by first | rfl | simp [*], by (with_reducible repeat (first | apply Kd.R_alloc | apply Kd.R_drewN | apply Kd.R_drew)); exact HO_0.out, by apply_rules [HB.out, below_alloc, pw_below_drewN, below_drew1], by repeat (first | (with_reducible first | exact HK.out | apply Kept.alloc | apply Kept.drewN | apply Kept.drew) | exact HK.out)⟩
end Go.Proofs.YtccebdpjdpjgnaaGreatDoor.P
end
