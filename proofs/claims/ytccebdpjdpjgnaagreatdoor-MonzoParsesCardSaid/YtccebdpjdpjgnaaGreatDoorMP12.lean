/-
parts of the walks and of the plain laws: Pdecimalpiecesback Pdecimalpiecestake
-/
import Derived.Test.YtccebdpjdpjgnaaGreatDoorMP05
set_option linter.unusedVariables false
set_option linter.unusedSimpArgs false
section
namespace Go.Proofs.YtccebdpjdpjgnaaGreatDoor.P
open Go.RowKit Go.Proofs.YtccebdpjdpjgnaaGreatDoorW.PrintWords Go.Proofs.YtccebdpjdpjgnaaGreatDoorW.PrintLast Go.Proofs.YtccebdpjdpjgnaaGreatDoorW.PrintMore
attribute [local go_sem] max2_int min2_int max_two min_two max_three min_three max_four min_four
def decimal_pieces_back.l0 : Nat → List Int → List Int → Int → Int → Int → Option (List Int)
 | 0, _, _, _, _, _ => none
 | k + 1, x0, x1, x2, x6, x7 => if x7 ≤ (x1.length : Int) then (if 0 ≤ (wrap64 (x2 + x7)) then (if (wrap64 (x2 + x7)) < (x0.length : Int) then (if x7 < (x1.length : Int) then (if 0 ≤ x7 then (decimal_pieces_back.l0 k (x0.set ((wrap64 (x2 + x7)) : Int).toNat (Int.tmod (IntKind.u64.wrap ((IntKind.u64.wrap (x6 + (rd x0 (wrap64 (x2 + x7))))) + (rd x1 x7))) 1000000000)) x1 x2 (IntKind.u64.wrap (Int.tdiv (IntKind.u64.wrap ((IntKind.u64.wrap (x6 + (rd x0 (wrap64 (x2 + x7))))) + (rd x1 x7))) 1000000000)) (wrap64 (x7 + 1))) else (none)) else (decimal_pieces_back.l0 k (x0.set ((wrap64 (x2 + x7)) : Int).toNat (Int.tmod (IntKind.u64.wrap (x6 + (rd x0 (wrap64 (x2 + x7))))) 1000000000)) x1 x2 (IntKind.u64.wrap (Int.tdiv (IntKind.u64.wrap (x6 + (rd x0 (wrap64 (x2 + x7))))) 1000000000)) (wrap64 (x7 + 1)))) else (none)) else (none)) else (some x0)
def decimal_pieces_back.f (k : Nat) (l0 : List Int) (l1 : List Int) (a2 : Int) : Option (List Int) := decimal_pieces_back.l0 k l0 l1 a2 0 0
set_option maxHeartbeats 8000000 in
set_option maxRecDepth 100000 in
theorem decimal_pieces_back.calls (k : Nat) (P0_ : Nat → Prop) (u9000_ : Value) (l0 : List Int) (A1 : Option Addr) (c1 : Nat) (l1 : List Int) (a2 : Int) (r : List Int) (w0 w : World) (hB : Below w0.heap.size w0 w) (ho0 : Kd.R (Kd.int .u64) 139 w w0.heap.size P0_ u9000_ l0) (hr1 : ∀ W_, Kept w W_ (fun k_ => P0_ k_) → Kd.C (Kd.int .u64) W_ A1 l1.length l1) (hc1 : l1.length ≤ c1) (h : decimal_pieces_back.f k l0 l1 a2 = some r) :
  Calls Tryz.prog 176 #[u9000_, .slice A1 l1.length c1, .int .i64 a2] w fun e w' => e = .returned (.tuple #[]) ∧ Kd.R (Kd.int .u64) 139 w' w0.heap.size (fun k_ => (P0_ k_ ∨ w.heap.size ≤ k_)) u9000_ r ∧ Below w0.heap.size w0 w' ∧ Kept w w' (fun k_ => P0_ k_) := by
 have HO0 := Aside0.mk (show Kd.R (Kd.int .u64) 139 w w0.heap.size (fun k_ => (P0_ k_ ∨ w.heap.size ≤ k_)) u9000_ l0 from Kd.R_mono ho0 (fun k_ hk => (.inl hk)))
 have HR1 := Aside0.mk hr1
 have HC1 := Aside0.mk hc1
 clear hr1 hc1
 have HK := Aside0.mk (Kept.refl w (fun k_ => P0_ k_))
 have HW0 := Aside0.mk hB.size
 have HB := Aside0.mk hB
 clear hB
 have H : (decimal_pieces_back.l0 k l0 l1 a2 0 0) = some r := h
 clear h
 have H' := Aside0.mk H
 clear H
 go_enter Tryz.func176, Tryz.ntmps176
 go_wp2
 go_loopg [6, 7] k (fun kq v6 v7 w' => ∃ (x0_1 : List Int) (x6_1 : Int) (x7_1 : Int), v6 = .int .u64 x6_1 ∧ v7 = .int .i64 x7_1 ∧ Aside0 (decimal_pieces_back.l0 kq x0_1 l1 a2 x6_1 x7_1 = some r) ∧ Aside0 (kq ≤ k) ∧ Aside0 (Kd.R (Kd.int .u64) 139 w' w0.heap.size (fun k_ => (P0_ k_ ∨ w.heap.size ≤ k_)) u9000_ x0_1) ∧ Aside0 (Kept w w' (fun k_ => P0_ k_)) ∧ Aside0 (Below w0.heap.size w0 w'))
 case atStart => exact ⟨(l0), (0), (0), (by first | rfl | (simp; done) | (simp [*]; done)), (by first | rfl | (simp; done) | (simp [*]; done)), H', ⟨Nat.le_refl _⟩, ⟨by apply_rules [HO0.out, Kd.R_alloc, Kd.R_drewN, Kd.R_drew]⟩, ⟨by repeat (first | (with_reducible first | exact HK.out | apply Kept.alloc | apply Kept.drewN | apply Kept.drew) | exact HK.out)⟩, ⟨by apply_rules [HB.out, below_alloc, pw_below_drewN, below_drew1]⟩⟩
 case round =>
  clear H'
  obtain ⟨x0_1, x6_1, x7_1, rfl, rfl, HA, HK1, HO_0, HK, HB⟩ := hrel
  cases gk with
  | zero => exact absurd HA.out (by simp [decimal_pieces_back.l0])
  | succ k1 =>
   have H := HA.out
   clear HA
   simp only [decimal_pieces_back.l0] at H
   by_cases c4 : x7_1 ≤ (l1.length : Int)
   ·rw [if_pos c4] at H
    have c4b0 : decide (x7_1 ≤ (l1.length : Int)) = true := decide_eq_true c4
    clear c4
    obtain ⟨ji5, hji5⟩ : ∃ j_ : Int, (wrap64 (a2 + x7_1)) = j_ := ⟨_, rfl⟩
    replace H : (if 0 ≤ (ji5) then (if (ji5) < (x0_1.length : Int) then (if x7_1 < (l1.length : Int) then (if 0 ≤ x7_1 then (decimal_pieces_back.l0 k1 (x0_1.set ((ji5) : Int).toNat (Int.tmod (IntKind.u64.wrap ((IntKind.u64.wrap (x6_1 + (rd x0_1 (ji5)))) + (rd l1 x7_1))) 1000000000)) l1 a2 (IntKind.u64.wrap (Int.tdiv (IntKind.u64.wrap ((IntKind.u64.wrap (x6_1 + (rd x0_1 (ji5)))) + (rd l1 x7_1))) 1000000000)) (wrap64 (x7_1 + 1))) else (none)) else (decimal_pieces_back.l0 k1 (x0_1.set ((ji5) : Int).toNat (Int.tmod (IntKind.u64.wrap (x6_1 + (rd x0_1 (ji5)))) 1000000000)) l1 a2 (IntKind.u64.wrap (Int.tdiv (IntKind.u64.wrap (x6_1 + (rd x0_1 (ji5)))) 1000000000)) (wrap64 (x7_1 + 1)))) else (none)) else (none)) = some r := by first | (rw [hji5] at H; exact H) | (simp only [hji5] at H ⊢; exact H)
    have hji5w : (IntKind.i64.wrap (a2 + x7_1)) = ji5 := (i64_w _).trans hji5
    by_cases c6 : 0 ≤ (ji5)
    case neg => rw [if_neg c6] at H; exact absurd H (by simp)
    rw [if_pos c6] at H
    have c6b0 : decide (0 ≤ (ji5)) = true := decide_eq_true c6
    clear c6
    by_cases c7 : (ji5) < (x0_1.length : Int)
    case neg => rw [if_neg c7] at H; exact absurd H (by simp)
    rw [if_pos c7] at H
    have c7b0 : decide ((ji5) < (x0_1.length : Int)) = true := decide_eq_true c7
    clear c7
    by_cases c8 : x7_1 < (l1.length : Int)
    ·rw [if_pos c8] at H
     have c8b0 : decide (x7_1 < (l1.length : Int)) = true := decide_eq_true c8
     clear c8
     by_cases c9 : 0 ≤ x7_1
     case neg => rw [if_neg c9] at H; exact absurd H (by simp)
     rw [if_pos c9] at H
     have c9b0 : decide (0 ≤ x7_1) = true := decide_eq_true c9
     clear c9
     obtain ⟨y190, hy190⟩ : ∃ y_ : List Int, y_ = (x0_1.set ((ji5) : Int).toNat (Int.tmod (IntKind.u64.wrap ((IntKind.u64.wrap (x6_1 + (rd x0_1 (ji5)))) + (rd l1 x7_1))) 1000000000)) := ⟨_, rfl⟩
     replace H : (decimal_pieces_back.l0 k1 y190 l1 a2 (IntKind.u64.wrap (Int.tdiv (IntKind.u64.wrap ((IntKind.u64.wrap (x6_1 + (rd x0_1 (ji5)))) + (rd l1 x7_1))) 1000000000)) (wrap64 (x7_1 + 1))) = some r := by first | (rw [hy190]; with_reducible exact H) | (have H2_ := (Option.bind_some _ _).symm.trans H; rw [hy190]; with_reducible exact H2_) | (have H2_ := (Option.bind_some _ _).symm.trans H; with_reducible exact H2_) | with_reducible exact H | (rw [hy190]; exact H) | exact H
     have Ny190 := Aside0.mk hy190
     clear hy190
     have H' := Aside0.mk H
     clear H
     obtain ⟨Ao11, co11, eo11⟩ := Kd.R_slice HO_0.out
     subst eo11
     have p188 : 0 ≤ ((ji5) : Int) := of_decide_eq_true (by assumption)
     have q188 : (ji5) < (x0_1.length : Int) := of_decide_eq_true (by assumption)
     obtain ⟨ad188, e188, hx188_0⟩ := Kd.at_int (Kd.R_reads' HO_0.out).2.2 (ji5) p188 q188
     cases e188
     replace p188 := eq_true p188
     replace q188 := eq_true q188
     have p189 : 0 ≤ (x7_1 : Int) := of_decide_eq_true (by assumption)
     have q189 : x7_1 < (l1.length : Int) := of_decide_eq_true (by assumption)
     obtain ⟨ad189, e189, hx189_0⟩ := Kd.at_int (Kd.C_kept_now HR1.out HK.out) x7_1 p189 q189
     cases e189
     replace p189 := eq_true p189
     replace q189 := eq_true q189
     have p10 : 0 ≤ ((ji5) : Int) := of_decide_eq_true (by assumption)
     have q10 : ((ji5) : Int) < ((x0_1.length : Int) : Int) := of_decide_eq_true (by assumption)
     obtain ⟨go10, co10, eo10, gb10, gl10, cl10, HG10⟩ := Kd.R_form HO_0.out (by omega)
     (first | cases eo10 | (injection eo10 with ea_ en_ ec_; (first | subst ea_ | (injection ea_ with ea_; subst ea_)); subst ec_; clear en_))
     have GB10 := Aside0.mk gb10
     have GG10 := Aside0.mk HG10
     clear gb10 gl10 HG10
     have HMgo10 := Aside0.mk (show (P0_ go10 ∨ w.heap.size ≤ go10) from (HO_0.out.1 _ rfl))
     (first | simp only [add_plain] at hx188_0 | skip)
     obtain ⟨hx10_0, hf10_0⟩ := Kd.R_celln 0 HO_0.out ((ji5) : Int) p10 q10
     replace p10 := eq_true p10
     replace q10 := eq_true q10
     have HP12 := Kd.R_putg HO_0.out ((ji5) : Int) (Int.tmod (IntKind.u64.wrap ((IntKind.u64.wrap (x6_1 + (rd x0_1 (ji5)))) + (rd l1 x7_1))) 1000000000)
     go_wp2_with (first | ((with_reducible refine gate_store (t := 139) (p := 38) rfl ?_); refine store_event (t := 139) (p := 38) (v := ?vo_w13) (w1 := (wr.setCell ⟨go10, ((ji5) : Int).toNat, none⟩ (.int .u64 (Int.tmod (IntKind.u64.wrap ((IntKind.u64.wrap (x6_1 + (rd x0_1 (ji5)))) + (rd l1 x7_1))) 1000000000)))) ?hg ?ho ?hn ?hr ?_; (case ho => rfl); (case hg => rfl); (case hn => rfl); (case hr => go_simp; try rfl); intro w13 hw; have hg : wr.grownBy w13 (some go10) := (by rw [hw]; exact HP12.2); have hp_ : Kd.R (Kd.int .u64) 139 w13 w0.heap.size (fun k_ => (P0_ k_ ∨ w.heap.size ≤ k_)) (.slice (some ⟨go10, 0, none⟩) x0_1.length co11) y190 := (by rw [hw, Ny190.out]; exact HP12.1); clear HP12; have n0_ := Aside0.mk (hp_); have n1_ := Aside0.mk ((by rw [hw]; exact below_set (HB.out) GB10.out : Below w0.heap.size w0 w13)); have n2_ := Aside0.mk (Kept.of_grown (S := (fun k_ => P0_ k_)) hg (by repeat (first | (with_reducible first | exact HK.out | apply Kept.alloc | apply Kept.drewN | apply Kept.drew) | exact HK.out)) (fun k_ e_ => (HO_0.out.1 k_ e_))); clear HO_0; clear HB; clear HK; have HO_0 := n0_; have HB := n1_; have HK := n2_; clear n0_ n1_ n2_; clear hg hw hp_))
     go_roundg k1
     case measure => have := HK1.out; omega
     case rel => exact ⟨(y190), (IntKind.u64.wrap (Int.tdiv (IntKind.u64.wrap ((IntKind.u64.wrap (x6_1 + (rd x0_1 (ji5)))) + (rd l1 x7_1))) 1000000000)), (wrap64 (x7_1 + 1)), (by first | rfl | (simp; done) | (simp only [← hji5] <;> (first | rfl | simp)) | (simp [*]; done)), (by first | rfl | (simp; done) | (simp [*]; done)), H', ⟨by have := HK1.out; omega⟩, ⟨by apply_rules [HO_0.out, Kd.R_alloc, Kd.R_drewN, Kd.R_drew]⟩, ⟨by repeat (first | (with_reducible first | exact HK.out | apply Kept.alloc | apply Kept.drewN | apply Kept.drew) | exact HK.out)⟩, ⟨by apply_rules [HB.out, below_alloc, pw_below_drewN, below_drew1]⟩⟩
    ·rw [if_neg c8] at H
     have c8b0 : decide (x7_1 < (l1.length : Int)) = false := decide_eq_false c8
     clear c8
     obtain ⟨y191, hy191⟩ : ∃ y_ : List Int, y_ = (x0_1.set ((ji5) : Int).toNat (Int.tmod (IntKind.u64.wrap (x6_1 + (rd x0_1 (ji5)))) 1000000000)) := ⟨_, rfl⟩
     replace H : (decimal_pieces_back.l0 k1 y191 l1 a2 (IntKind.u64.wrap (Int.tdiv (IntKind.u64.wrap (x6_1 + (rd x0_1 (ji5)))) 1000000000)) (wrap64 (x7_1 + 1))) = some r := by first | (rw [hy191]; with_reducible exact H) | (have H2_ := (Option.bind_some _ _).symm.trans H; rw [hy191]; with_reducible exact H2_) | (have H2_ := (Option.bind_some _ _).symm.trans H; with_reducible exact H2_) | with_reducible exact H | (rw [hy191]; exact H) | exact H
     have Ny191 := Aside0.mk hy191
     clear hy191
     have H' := Aside0.mk H
     clear H
     obtain ⟨Ao15, co15, eo15⟩ := Kd.R_slice HO_0.out
     subst eo15
     have p188 : 0 ≤ ((ji5) : Int) := of_decide_eq_true (by assumption)
     have q188 : (ji5) < (x0_1.length : Int) := of_decide_eq_true (by assumption)
     obtain ⟨ad188, e188, hx188_0⟩ := Kd.at_int (Kd.R_reads' HO_0.out).2.2 (ji5) p188 q188
     cases e188
     replace p188 := eq_true p188
     replace q188 := eq_true q188
     have p14 : 0 ≤ ((ji5) : Int) := of_decide_eq_true (by assumption)
     have q14 : ((ji5) : Int) < ((x0_1.length : Int) : Int) := of_decide_eq_true (by assumption)
     obtain ⟨go14, co14, eo14, gb14, gl14, cl14, HG14⟩ := Kd.R_form HO_0.out (by omega)
     (first | cases eo14 | (injection eo14 with ea_ en_ ec_; (first | subst ea_ | (injection ea_ with ea_; subst ea_)); subst ec_; clear en_))
     have GB14 := Aside0.mk gb14
     have GG14 := Aside0.mk HG14
     clear gb14 gl14 HG14
     have HMgo14 := Aside0.mk (show (P0_ go14 ∨ w.heap.size ≤ go14) from (HO_0.out.1 _ rfl))
     (first | simp only [add_plain] at hx188_0 | skip)
     obtain ⟨hx14_0, hf14_0⟩ := Kd.R_celln 0 HO_0.out ((ji5) : Int) p14 q14
     replace p14 := eq_true p14
     replace q14 := eq_true q14
     have HP16 := Kd.R_putg HO_0.out ((ji5) : Int) (Int.tmod (IntKind.u64.wrap (x6_1 + (rd x0_1 (ji5)))) 1000000000)
     go_wp2_with (first | ((with_reducible refine gate_store (t := 139) (p := 38) rfl ?_); refine store_event (t := 139) (p := 38) (v := ?vo_w17) (w1 := (wr.setCell ⟨go14, ((ji5) : Int).toNat, none⟩ (.int .u64 (Int.tmod (IntKind.u64.wrap (x6_1 + (rd x0_1 (ji5)))) 1000000000)))) ?hg ?ho ?hn ?hr ?_; (case ho => rfl); (case hg => rfl); (case hn => rfl); (case hr => go_simp; try rfl); intro w17 hw; have hg : wr.grownBy w17 (some go14) := (by rw [hw]; exact HP16.2); have hp_ : Kd.R (Kd.int .u64) 139 w17 w0.heap.size (fun k_ => (P0_ k_ ∨ w.heap.size ≤ k_)) (.slice (some ⟨go14, 0, none⟩) x0_1.length co15) y191 := (by rw [hw, Ny191.out]; exact HP16.1); clear HP16; have n0_ := Aside0.mk (hp_); have n1_ := Aside0.mk ((by rw [hw]; exact below_set (HB.out) GB14.out : Below w0.heap.size w0 w17)); have n2_ := Aside0.mk (Kept.of_grown (S := (fun k_ => P0_ k_)) hg (by repeat (first | (with_reducible first | exact HK.out | apply Kept.alloc | apply Kept.drewN | apply Kept.drew) | exact HK.out)) (fun k_ e_ => (HO_0.out.1 k_ e_))); clear HO_0; clear HB; clear HK; have HO_0 := n0_; have HB := n1_; have HK := n2_; clear n0_ n1_ n2_; clear hg hw hp_))
     go_roundg k1
     case measure => have := HK1.out; omega
     case rel => exact ⟨(y191), (IntKind.u64.wrap (Int.tdiv (IntKind.u64.wrap (x6_1 + (rd x0_1 (ji5)))) 1000000000)), (wrap64 (x7_1 + 1)), (by first | rfl | (simp; done) | (simp only [← hji5] <;> (first | rfl | simp)) | (simp [*]; done)), (by first | rfl | (simp; done) | (simp [*]; done)), H', ⟨by have := HK1.out; omega⟩, ⟨by apply_rules [HO_0.out, Kd.R_alloc, Kd.R_drewN, Kd.R_drew]⟩, ⟨by repeat (first | (with_reducible first | exact HK.out | apply Kept.alloc | apply Kept.drewN | apply Kept.drew) | exact HK.out)⟩, ⟨by apply_rules [HB.out, below_alloc, pw_below_drewN, below_drew1]⟩⟩
   ·rw [if_neg c4] at H
    have c4b0 : decide (x7_1 ≤ (l1.length : Int)) = false := decide_eq_false c4
    clear c4
    obtain rfl := Option.some.inj H
    go_wp2
    first | go_end0 | ((try simp only [Exit.inBlock, Exit.then]); refine bodyPost_ret (results_none rfl _ _ _) rfl ?_)
    exact ⟨by first | rfl | simp [*], by (with_reducible repeat (first | apply Kd.R_alloc | apply Kd.R_drewN | apply Kd.R_drew)); exact HO_0.out, by apply_rules [HB.out, below_alloc, pw_below_drewN, below_drew1], by repeat (first | (with_reducible first | exact HK.out | apply Kept.alloc | apply Kept.drewN | apply Kept.drew) | exact HK.out)⟩
def decimal_pieces_take.l0 : Nat → List Int → List Int → Int → Int → Int → Int → Int → Option (Bool × List Int)
 | 0, _, _, _, _, _, _, _ => none
 | k + 1, x0, x1, x2, x3, x9, x10, x11 => if x11 ≤ (x1.length : Int) then (if x11 < (x1.length : Int) then (if 0 ≤ x11 then (if 0 ≤ (wrap64 (x3 + x11)) then (if (wrap64 (x3 + x11)) < (x0.length : Int) then (if (wrap64 ((wrap64 ((wrap64 (rd x0 (wrap64 (x3 + x11)))) - (wrap64 (Int.tmod (IntKind.u64.wrap (x10 + (IntKind.u64.wrap (x2 * (rd x1 x11))))) 1000000000)))) - x9)) < 0 then (decimal_pieces_take.l0 k (x0.set ((wrap64 (x3 + x11)) : Int).toNat (IntKind.u64.wrap (wrap64 ((wrap64 ((wrap64 ((wrap64 (rd x0 (wrap64 (x3 + x11)))) - (wrap64 (Int.tmod (IntKind.u64.wrap (x10 + (IntKind.u64.wrap (x2 * (rd x1 x11))))) 1000000000)))) - x9)) + 1000000000)))) x1 x2 x3 1 (IntKind.u64.wrap (Int.tdiv (IntKind.u64.wrap (x10 + (IntKind.u64.wrap (x2 * (rd x1 x11))))) 1000000000)) (wrap64 (x11 + 1))) else (decimal_pieces_take.l0 k (x0.set ((wrap64 (x3 + x11)) : Int).toNat (IntKind.u64.wrap (wrap64 ((wrap64 ((wrap64 (rd x0 (wrap64 (x3 + x11)))) - (wrap64 (Int.tmod (IntKind.u64.wrap (x10 + (IntKind.u64.wrap (x2 * (rd x1 x11))))) 1000000000)))) - x9)))) x1 x2 x3 0 (IntKind.u64.wrap (Int.tdiv (IntKind.u64.wrap (x10 + (IntKind.u64.wrap (x2 * (rd x1 x11))))) 1000000000)) (wrap64 (x11 + 1)))) else (none)) else (none)) else (none)) else (if 0 ≤ (wrap64 (x3 + x11)) then (if (wrap64 (x3 + x11)) < (x0.length : Int) then (if (wrap64 ((wrap64 ((wrap64 (rd x0 (wrap64 (x3 + x11)))) - (wrap64 (Int.tmod x10 1000000000)))) - x9)) < 0 then (decimal_pieces_take.l0 k (x0.set ((wrap64 (x3 + x11)) : Int).toNat (IntKind.u64.wrap (wrap64 ((wrap64 ((wrap64 ((wrap64 (rd x0 (wrap64 (x3 + x11)))) - (wrap64 (Int.tmod x10 1000000000)))) - x9)) + 1000000000)))) x1 x2 x3 1 (IntKind.u64.wrap (Int.tdiv x10 1000000000)) (wrap64 (x11 + 1))) else (decimal_pieces_take.l0 k (x0.set ((wrap64 (x3 + x11)) : Int).toNat (IntKind.u64.wrap (wrap64 ((wrap64 ((wrap64 (rd x0 (wrap64 (x3 + x11)))) - (wrap64 (Int.tmod x10 1000000000)))) - x9)))) x1 x2 x3 0 (IntKind.u64.wrap (Int.tdiv x10 1000000000)) (wrap64 (x11 + 1)))) else (none)) else (none))) else (some (decide (x9 > 0), x0))
def decimal_pieces_take.f (k : Nat) (l0 : List Int) (l1 : List Int) (a2 : Int) (a3 : Int) : Option (Bool × List Int) := decimal_pieces_take.l0 k l0 l1 a2 a3 0 0 0
set_option maxHeartbeats 8000000 in
set_option maxRecDepth 100000 in
theorem decimal_pieces_take.calls (k : Nat) (P0_ : Nat → Prop) (u9000_ : Value) (l0 : List Int) (A1 : Option Addr) (c1 : Nat) (l1 : List Int) (a2 : Int) (a3 : Int) (r1 : Bool) (r2 : List Int) (w0 w : World) (hB : Below w0.heap.size w0 w) (ho0 : Kd.R (Kd.int .u64) 139 w w0.heap.size P0_ u9000_ l0) (hr1 : ∀ W_, Kept w W_ (fun k_ => P0_ k_) → Kd.C (Kd.int .u64) W_ A1 l1.length l1) (hc1 : l1.length ≤ c1) (h : decimal_pieces_take.f k l0 l1 a2 a3 = some (r1, r2)) :
  Calls Tryz.prog 178 #[u9000_, .slice A1 l1.length c1, .int .u64 a2, .int .i64 a3] w fun e w' => e = .returned (.bool r1) ∧ Kd.R (Kd.int .u64) 139 w' w0.heap.size (fun k_ => (P0_ k_ ∨ w.heap.size ≤ k_)) u9000_ r2 ∧ Below w0.heap.size w0 w' ∧ Kept w w' (fun k_ => P0_ k_) := by
 have HO0 := Aside0.mk (show Kd.R (Kd.int .u64) 139 w w0.heap.size (fun k_ => (P0_ k_ ∨ w.heap.size ≤ k_)) u9000_ l0 from Kd.R_mono ho0 (fun k_ hk => (.inl hk)))
 have HR1 := Aside0.mk hr1
 have HC1 := Aside0.mk hc1
 clear hr1 hc1
 have HK := Aside0.mk (Kept.refl w (fun k_ => P0_ k_))
 have HW0 := Aside0.mk hB.size
 have HB := Aside0.mk hB
 clear hB
 have H : (decimal_pieces_take.l0 k l0 l1 a2 a3 0 0 0) = some (r1, r2) := h
 clear h
 have H' := Aside0.mk H
 clear H
 go_enter Tryz.func178, Tryz.ntmps178
 go_wp2
 go_loopg [9, 10, 11] k (fun kq v9 v10 v11 w' => ∃ (x0_1 : List Int) (x9_1 : Int) (x10_1 : Int) (x11_1 : Int), v9 = .int .i64 x9_1 ∧ v10 = .int .u64 x10_1 ∧ v11 = .int .i64 x11_1 ∧ Aside0 (decimal_pieces_take.l0 kq x0_1 l1 a2 a3 x9_1 x10_1 x11_1 = some (r1, r2)) ∧ Aside0 (kq ≤ k) ∧ Aside0 (Kd.R (Kd.int .u64) 139 w' w0.heap.size (fun k_ => (P0_ k_ ∨ w.heap.size ≤ k_)) u9000_ x0_1) ∧ Aside0 (Kept w w' (fun k_ => P0_ k_)) ∧ Aside0 (Below w0.heap.size w0 w'))
 case atStart => exact ⟨(l0), (0), (0), (0), (by first | rfl | (simp; done) | (simp [*]; done)), (by first | rfl | (simp; done) | (simp [*]; done)), (by first | rfl | (simp; done) | (simp [*]; done)), H', ⟨Nat.le_refl _⟩, ⟨by apply_rules [HO0.out, Kd.R_alloc, Kd.R_drewN, Kd.R_drew]⟩, ⟨by repeat (first | (with_reducible first | exact HK.out | apply Kept.alloc | apply Kept.drewN | apply Kept.drew) | exact HK.out)⟩, ⟨by apply_rules [HB.out, below_alloc, pw_below_drewN, below_drew1]⟩⟩
 case round =>
  clear H'
  obtain ⟨x0_1, x9_1, x10_1, x11_1, rfl, rfl, rfl, HA, HK1, HO_0, HK, HB⟩ := hrel
  cases gk with
  | zero => exact absurd HA.out (by simp [decimal_pieces_take.l0])
  | succ k1 =>
   have H := HA.out
   clear HA
   simp only [decimal_pieces_take.l0] at H
   by_cases c5 : x11_1 ≤ (l1.length : Int)
   ·rw [if_pos c5] at H
    have c5b0 : decide (x11_1 ≤ (l1.length : Int)) = true := decide_eq_true c5
    clear c5
    by_cases c6 : x11_1 < (l1.length : Int)
    ·rw [if_pos c6] at H
     have c6b0 : decide (x11_1 < (l1.length : Int)) = true := decide_eq_true c6
     clear c6
     by_cases c7 : 0 ≤ x11_1
     case neg => rw [if_neg c7] at H; exact absurd H (by simp)
     rw [if_pos c7] at H
     have c7b0 : decide (0 ≤ x11_1) = true := decide_eq_true c7
     clear c7
     obtain ⟨ji8, hji8⟩ : ∃ j_ : Int, (wrap64 (a3 + x11_1)) = j_ := ⟨_, rfl⟩
     replace H : (if 0 ≤ (ji8) then (if (ji8) < (x0_1.length : Int) then (if (wrap64 ((wrap64 ((wrap64 (rd x0_1 (ji8))) - (wrap64 (Int.tmod (IntKind.u64.wrap (x10_1 + (IntKind.u64.wrap (a2 * (rd l1 x11_1))))) 1000000000)))) - x9_1)) < 0 then (decimal_pieces_take.l0 k1 (x0_1.set ((ji8) : Int).toNat (IntKind.u64.wrap (wrap64 ((wrap64 ((wrap64 ((wrap64 (rd x0_1 (ji8))) - (wrap64 (Int.tmod (IntKind.u64.wrap (x10_1 + (IntKind.u64.wrap (a2 * (rd l1 x11_1))))) 1000000000)))) - x9_1)) + 1000000000)))) l1 a2 a3 1 (IntKind.u64.wrap (Int.tdiv (IntKind.u64.wrap (x10_1 + (IntKind.u64.wrap (a2 * (rd l1 x11_1))))) 1000000000)) (wrap64 (x11_1 + 1))) else (decimal_pieces_take.l0 k1 (x0_1.set ((ji8) : Int).toNat (IntKind.u64.wrap (wrap64 ((wrap64 ((wrap64 (rd x0_1 (ji8))) - (wrap64 (Int.tmod (IntKind.u64.wrap (x10_1 + (IntKind.u64.wrap (a2 * (rd l1 x11_1))))) 1000000000)))) - x9_1)))) l1 a2 a3 0 (IntKind.u64.wrap (Int.tdiv (IntKind.u64.wrap (x10_1 + (IntKind.u64.wrap (a2 * (rd l1 x11_1))))) 1000000000)) (wrap64 (x11_1 + 1)))) else (none)) else (none)) = some (r1, r2) := by first | (rw [hji8] at H; exact H) | (simp only [hji8] at H ⊢; exact H)
     have hji8w : (IntKind.i64.wrap (a3 + x11_1)) = ji8 := (i64_w _).trans hji8
     by_cases c9 : 0 ≤ (ji8)
     case neg => rw [if_neg c9] at H; exact absurd H (by simp)
     rw [if_pos c9] at H
     have c9b0 : decide (0 ≤ (ji8)) = true := decide_eq_true c9
     clear c9
     by_cases c10 : (ji8) < (x0_1.length : Int)
     case neg => rw [if_neg c10] at H; exact absurd H (by simp)
     rw [if_pos c10] at H
     have c10b0 : decide ((ji8) < (x0_1.length : Int)) = true := decide_eq_true c10
     clear c10
     by_cases c11 : (wrap64 ((wrap64 ((wrap64 (rd x0_1 (ji8))) - (wrap64 (Int.tmod (IntKind.u64.wrap (x10_1 + (IntKind.u64.wrap (a2 * (rd l1 x11_1))))) 1000000000)))) - x9_1)) < 0
     ·rw [if_pos c11] at H
      have c11b0 : decide ((wrap64 ((wrap64 ((wrap64 (rd x0_1 (ji8))) - (wrap64 (Int.tmod (IntKind.u64.wrap (x10_1 + (IntKind.u64.wrap (a2 * (rd l1 x11_1))))) 1000000000)))) - x9_1)) < 0) = true := decide_eq_true c11
      clear c11
      obtain ⟨y194, hy194⟩ : ∃ y_ : List Int, y_ = (x0_1.set ((ji8) : Int).toNat (IntKind.u64.wrap (wrap64 ((wrap64 ((wrap64 ((wrap64 (rd x0_1 (ji8))) - (wrap64 (Int.tmod (IntKind.u64.wrap (x10_1 + (IntKind.u64.wrap (a2 * (rd l1 x11_1))))) 1000000000)))) - x9_1)) + 1000000000)))) := ⟨_, rfl⟩
      replace H : (decimal_pieces_take.l0 k1 y194 l1 a2 a3 1 (IntKind.u64.wrap (Int.tdiv (IntKind.u64.wrap (x10_1 + (IntKind.u64.wrap (a2 * (rd l1 x11_1))))) 1000000000)) (wrap64 (x11_1 + 1))) = some (r1, r2) := by first | (rw [hy194]; with_reducible exact H) | (have H2_ := (Option.bind_some _ _).symm.trans H; rw [hy194]; with_reducible exact H2_) | (have H2_ := (Option.bind_some _ _).symm.trans H; with_reducible exact H2_) | with_reducible exact H | (rw [hy194]; exact H) | exact H
      have Ny194 := Aside0.mk hy194
      clear hy194
      have H' := Aside0.mk H
      clear H
      have p192 : 0 ≤ (x11_1 : Int) := of_decide_eq_true (by assumption)
      have q192 : x11_1 < (l1.length : Int) := of_decide_eq_true (by assumption)
      obtain ⟨ad192, e192, hx192_0⟩ := Kd.at_int (Kd.C_kept_now HR1.out HK.out) x11_1 p192 q192
      cases e192
      replace p192 := eq_true p192
      replace q192 := eq_true q192
      obtain ⟨Ao13, co13, eo13⟩ := Kd.R_slice HO_0.out
      subst eo13
      have p193 : 0 ≤ ((ji8) : Int) := of_decide_eq_true (by assumption)
      have q193 : (ji8) < (x0_1.length : Int) := of_decide_eq_true (by assumption)
      obtain ⟨ad193, e193, hx193_0⟩ := Kd.at_int (Kd.R_reads' HO_0.out).2.2 (ji8) p193 q193
      cases e193
      replace p193 := eq_true p193
      replace q193 := eq_true q193
      have p12 : 0 ≤ ((ji8) : Int) := of_decide_eq_true (by assumption)
      have q12 : ((ji8) : Int) < ((x0_1.length : Int) : Int) := of_decide_eq_true (by assumption)
      obtain ⟨go12, co12, eo12, gb12, gl12, cl12, HG12⟩ := Kd.R_form HO_0.out (by omega)
      (first | cases eo12 | (injection eo12 with ea_ en_ ec_; (first | subst ea_ | (injection ea_ with ea_; subst ea_)); subst ec_; clear en_))
      have GB12 := Aside0.mk gb12
      have GG12 := Aside0.mk HG12
      clear gb12 gl12 HG12
      have HMgo12 := Aside0.mk (show (P0_ go12 ∨ w.heap.size ≤ go12) from (HO_0.out.1 _ rfl))
      (first | simp only [add_plain] at hx193_0 | skip)
      obtain ⟨hx12_0, hf12_0⟩ := Kd.R_celln 0 HO_0.out ((ji8) : Int) p12 q12
      replace p12 := eq_true p12
      replace q12 := eq_true q12
      have HP14 := Kd.R_putg HO_0.out ((ji8) : Int) (IntKind.u64.wrap (wrap64 ((wrap64 ((wrap64 ((wrap64 (rd x0_1 (ji8))) - (wrap64 (Int.tmod (IntKind.u64.wrap (x10_1 + (IntKind.u64.wrap (a2 * (rd l1 x11_1))))) 1000000000)))) - x9_1)) + 1000000000)))
      go_wp2_with (first | ((with_reducible refine gate_store (t := 139) (p := 56) rfl ?_); refine store_event (t := 139) (p := 56) (v := ?vo_w15) (w1 := (wr.setCell ⟨go12, ((ji8) : Int).toNat, none⟩ (.int .u64 (IntKind.u64.wrap (wrap64 ((wrap64 ((wrap64 ((wrap64 (rd x0_1 (ji8))) - (wrap64 (Int.tmod (IntKind.u64.wrap (x10_1 + (IntKind.u64.wrap (a2 * (rd l1 x11_1))))) 1000000000)))) - x9_1)) + 1000000000)))))) ?hg ?ho ?hn ?hr ?_; (case ho => rfl); (case hg => rfl); (case hn => rfl); (case hr => go_simp; try rfl); intro w15 hw; have hg : wr.grownBy w15 (some go12) := (by rw [hw]; exact HP14.2); have hp_ : Kd.R (Kd.int .u64) 139 w15 w0.heap.size (fun k_ => (P0_ k_ ∨ w.heap.size ≤ k_)) (.slice (some ⟨go12, 0, none⟩) x0_1.length co13) y194 := (by rw [hw, Ny194.out]; exact HP14.1); clear HP14; have n0_ := Aside0.mk (hp_); have n1_ := Aside0.mk ((by rw [hw]; exact below_set (HB.out) GB12.out : Below w0.heap.size w0 w15)); have n2_ := Aside0.mk (Kept.of_grown (S := (fun k_ => P0_ k_)) hg (by repeat (first | (with_reducible first | exact HK.out | apply Kept.alloc | apply Kept.drewN | apply Kept.drew) | exact HK.out)) (fun k_ e_ => (HO_0.out.1 k_ e_))); clear HO_0; clear HB; clear HK; have HO_0 := n0_; have HB := n1_; have HK := n2_; clear n0_ n1_ n2_; clear hg hw hp_))
      go_roundg k1
      case measure => have := HK1.out; omega
      case rel => exact ⟨(y194), (1), (IntKind.u64.wrap (Int.tdiv (IntKind.u64.wrap (x10_1 + (IntKind.u64.wrap (a2 * (rd l1 x11_1))))) 1000000000)), (wrap64 (x11_1 + 1)), (by first | rfl | (simp; done) | (simp [*]; done)), (by first | rfl | (simp; done) | (simp [*]; done)), (by first | rfl | (simp; done) | (simp [*]; done)), H', ⟨by have := HK1.out; omega⟩, ⟨by apply_rules [HO_0.out, Kd.R_alloc, Kd.R_drewN, Kd.R_drew]⟩, ⟨by repeat (first | (with_reducible first | exact HK.out | apply Kept.alloc | apply Kept.drewN | apply Kept.drew) | exact HK.out)⟩, ⟨by apply_rules [HB.out, below_alloc, pw_below_drewN, below_drew1]⟩⟩
     ·rw [if_neg c11] at H
      have c11b0 : decide ((wrap64 ((wrap64 ((wrap64 (rd x0_1 (ji8))) - (wrap64 (Int.tmod (IntKind.u64.wrap (x10_1 + (IntKind.u64.wrap (a2 * (rd l1 x11_1))))) 1000000000)))) - x9_1)) < 0) = false := decide_eq_false c11
      clear c11
      obtain ⟨y195, hy195⟩ : ∃ y_ : List Int, y_ = (x0_1.set ((ji8) : Int).toNat (IntKind.u64.wrap (wrap64 ((wrap64 ((wrap64 (rd x0_1 (ji8))) - (wrap64 (Int.tmod (IntKind.u64.wrap (x10_1 + (IntKind.u64.wrap (a2 * (rd l1 x11_1))))) 1000000000)))) - x9_1)))) := ⟨_, rfl⟩
      replace H : (decimal_pieces_take.l0 k1 y195 l1 a2 a3 0 (IntKind.u64.wrap (Int.tdiv (IntKind.u64.wrap (x10_1 + (IntKind.u64.wrap (a2 * (rd l1 x11_1))))) 1000000000)) (wrap64 (x11_1 + 1))) = some (r1, r2) := by first | (rw [hy195]; with_reducible exact H) | (have H2_ := (Option.bind_some _ _).symm.trans H; rw [hy195]; with_reducible exact H2_) | (have H2_ := (Option.bind_some _ _).symm.trans H; with_reducible exact H2_) | with_reducible exact H | (rw [hy195]; exact H) | exact H
      have Ny195 := Aside0.mk hy195
      clear hy195
      have H' := Aside0.mk H
      clear H
      have p192 : 0 ≤ (x11_1 : Int) := of_decide_eq_true (by assumption)
      have q192 : x11_1 < (l1.length : Int) := of_decide_eq_true (by assumption)
      obtain ⟨ad192, e192, hx192_0⟩ := Kd.at_int (Kd.C_kept_now HR1.out HK.out) x11_1 p192 q192
      cases e192
      replace p192 := eq_true p192
      replace q192 := eq_true q192
      obtain ⟨Ao17, co17, eo17⟩ := Kd.R_slice HO_0.out
      subst eo17
      have p193 : 0 ≤ ((ji8) : Int) := of_decide_eq_true (by assumption)
      have q193 : (ji8) < (x0_1.length : Int) := of_decide_eq_true (by assumption)
      obtain ⟨ad193, e193, hx193_0⟩ := Kd.at_int (Kd.R_reads' HO_0.out).2.2 (ji8) p193 q193
      cases e193
      replace p193 := eq_true p193
      replace q193 := eq_true q193
      have p16 : 0 ≤ ((ji8) : Int) := of_decide_eq_true (by assumption)
      have q16 : ((ji8) : Int) < ((x0_1.length : Int) : Int) := of_decide_eq_true (by assumption)
      obtain ⟨go16, co16, eo16, gb16, gl16, cl16, HG16⟩ := Kd.R_form HO_0.out (by omega)
      (first | cases eo16 | (injection eo16 with ea_ en_ ec_; (first | subst ea_ | (injection ea_ with ea_; subst ea_)); subst ec_; clear en_))
      have GB16 := Aside0.mk gb16
      have GG16 := Aside0.mk HG16
      clear gb16 gl16 HG16
      have HMgo16 := Aside0.mk (show (P0_ go16 ∨ w.heap.size ≤ go16) from (HO_0.out.1 _ rfl))
      (first | simp only [add_plain] at hx193_0 | skip)
      obtain ⟨hx16_0, hf16_0⟩ := Kd.R_celln 0 HO_0.out ((ji8) : Int) p16 q16
      replace p16 := eq_true p16
      replace q16 := eq_true q16
      have HP18 := Kd.R_putg HO_0.out ((ji8) : Int) (IntKind.u64.wrap (wrap64 ((wrap64 ((wrap64 (rd x0_1 (ji8))) - (wrap64 (Int.tmod (IntKind.u64.wrap (x10_1 + (IntKind.u64.wrap (a2 * (rd l1 x11_1))))) 1000000000)))) - x9_1)))
      go_wp2_with (first | ((with_reducible refine gate_store (t := 139) (p := 56) rfl ?_); refine store_event (t := 139) (p := 56) (v := ?vo_w19) (w1 := (wr.setCell ⟨go16, ((ji8) : Int).toNat, none⟩ (.int .u64 (IntKind.u64.wrap (wrap64 ((wrap64 ((wrap64 (rd x0_1 (ji8))) - (wrap64 (Int.tmod (IntKind.u64.wrap (x10_1 + (IntKind.u64.wrap (a2 * (rd l1 x11_1))))) 1000000000)))) - x9_1)))))) ?hg ?ho ?hn ?hr ?_; (case ho => rfl); (case hg => rfl); (case hn => rfl); (case hr => go_simp; try rfl); intro w19 hw; have hg : wr.grownBy w19 (some go16) := (by rw [hw]; exact HP18.2); have hp_ : Kd.R (Kd.int .u64) 139 w19 w0.heap.size (fun k_ => (P0_ k_ ∨ w.heap.size ≤ k_)) (.slice (some ⟨go16, 0, none⟩) x0_1.length co17) y195 := (by rw [hw, Ny195.out]; exact HP18.1); clear HP18; have n0_ := Aside0.mk (hp_); have n1_ := Aside0.mk ((by rw [hw]; exact below_set (HB.out) GB16.out : Below w0.heap.size w0 w19)); have n2_ := Aside0.mk (Kept.of_grown (S := (fun k_ => P0_ k_)) hg (by repeat (first | (with_reducible first | exact HK.out | apply Kept.alloc | apply Kept.drewN | apply Kept.drew) | exact HK.out)) (fun k_ e_ => (HO_0.out.1 k_ e_))); clear HO_0; clear HB; clear HK; have HO_0 := n0_; have HB := n1_; have HK := n2_; clear n0_ n1_ n2_; clear hg hw hp_))
      go_roundg k1
      case measure => have := HK1.out; omega
      case rel => exact ⟨(y195), (0), (IntKind.u64.wrap (Int.tdiv (IntKind.u64.wrap (x10_1 + (IntKind.u64.wrap (a2 * (rd l1 x11_1))))) 1000000000)), (wrap64 (x11_1 + 1)), (by first | rfl | (simp; done) | (simp [*]; done)), (by first | rfl | (simp; done) | (simp [*]; done)), (by first | rfl | (simp; done) | (simp [*]; done)), H', ⟨by have := HK1.out; omega⟩, ⟨by apply_rules [HO_0.out, Kd.R_alloc, Kd.R_drewN, Kd.R_drew]⟩, ⟨by repeat (first | (with_reducible first | exact HK.out | apply Kept.alloc | apply Kept.drewN | apply Kept.drew) | exact HK.out)⟩, ⟨by apply_rules [HB.out, below_alloc, pw_below_drewN, below_drew1]⟩⟩
    ·rw [if_neg c6] at H
     have c6b0 : decide (x11_1 < (l1.length : Int)) = false := decide_eq_false c6
     clear c6
     obtain ⟨ji20, hji20⟩ : ∃ j_ : Int, (wrap64 (a3 + x11_1)) = j_ := ⟨_, rfl⟩
     replace H : (if 0 ≤ (ji20) then (if (ji20) < (x0_1.length : Int) then (if (wrap64 ((wrap64 ((wrap64 (rd x0_1 (ji20))) - (wrap64 (Int.tmod x10_1 1000000000)))) - x9_1)) < 0 then (decimal_pieces_take.l0 k1 (x0_1.set ((ji20) : Int).toNat (IntKind.u64.wrap (wrap64 ((wrap64 ((wrap64 ((wrap64 (rd x0_1 (ji20))) - (wrap64 (Int.tmod x10_1 1000000000)))) - x9_1)) + 1000000000)))) l1 a2 a3 1 (IntKind.u64.wrap (Int.tdiv x10_1 1000000000)) (wrap64 (x11_1 + 1))) else (decimal_pieces_take.l0 k1 (x0_1.set ((ji20) : Int).toNat (IntKind.u64.wrap (wrap64 ((wrap64 ((wrap64 (rd x0_1 (ji20))) - (wrap64 (Int.tmod x10_1 1000000000)))) - x9_1)))) l1 a2 a3 0 (IntKind.u64.wrap (Int.tdiv x10_1 1000000000)) (wrap64 (x11_1 + 1)))) else (none)) else (none)) = some (r1, r2) := by first | (rw [hji20] at H; exact H) | (simp only [hji20] at H ⊢; exact H)
     have hji20w : (IntKind.i64.wrap (a3 + x11_1)) = ji20 := (i64_w _).trans hji20
     by_cases c21 : 0 ≤ (ji20)
     case neg => rw [if_neg c21] at H; exact absurd H (by simp)
     rw [if_pos c21] at H
     have c21b0 : decide (0 ≤ (ji20)) = true := decide_eq_true c21
     clear c21
     by_cases c22 : (ji20) < (x0_1.length : Int)
     case neg => rw [if_neg c22] at H; exact absurd H (by simp)
     rw [if_pos c22] at H
     have c22b0 : decide ((ji20) < (x0_1.length : Int)) = true := decide_eq_true c22
     clear c22
     by_cases c23 : (wrap64 ((wrap64 ((wrap64 (rd x0_1 (ji20))) - (wrap64 (Int.tmod x10_1 1000000000)))) - x9_1)) < 0
     ·rw [if_pos c23] at H
      have c23b0 : decide ((wrap64 ((wrap64 ((wrap64 (rd x0_1 (ji20))) - (wrap64 (Int.tmod x10_1 1000000000)))) - x9_1)) < 0) = true := decide_eq_true c23
      clear c23
      obtain ⟨y197, hy197⟩ : ∃ y_ : List Int, y_ = (x0_1.set ((ji20) : Int).toNat (IntKind.u64.wrap (wrap64 ((wrap64 ((wrap64 ((wrap64 (rd x0_1 (ji20))) - (wrap64 (Int.tmod x10_1 1000000000)))) - x9_1)) + 1000000000)))) := ⟨_, rfl⟩
      replace H : (decimal_pieces_take.l0 k1 y197 l1 a2 a3 1 (IntKind.u64.wrap (Int.tdiv x10_1 1000000000)) (wrap64 (x11_1 + 1))) = some (r1, r2) := by first | (rw [hy197]; with_reducible exact H) | (have H2_ := (Option.bind_some _ _).symm.trans H; rw [hy197]; with_reducible exact H2_) | (have H2_ := (Option.bind_some _ _).symm.trans H; with_reducible exact H2_) | with_reducible exact H | (rw [hy197]; exact H) | exact H
      have Ny197 := Aside0.mk hy197
      clear hy197
      have H' := Aside0.mk H
      clear H
      obtain ⟨Ao25, co25, eo25⟩ := Kd.R_slice HO_0.out
      subst eo25
      have p196 : 0 ≤ ((ji20) : Int) := of_decide_eq_true (by assumption)
      have q196 : (ji20) < (x0_1.length : Int) := of_decide_eq_true (by assumption)
      obtain ⟨ad196, e196, hx196_0⟩ := Kd.at_int (Kd.R_reads' HO_0.out).2.2 (ji20) p196 q196
      cases e196
      replace p196 := eq_true p196
      replace q196 := eq_true q196
      have p24 : 0 ≤ ((ji20) : Int) := of_decide_eq_true (by assumption)
      have q24 : ((ji20) : Int) < ((x0_1.length : Int) : Int) := of_decide_eq_true (by assumption)
      obtain ⟨go24, co24, eo24, gb24, gl24, cl24, HG24⟩ := Kd.R_form HO_0.out (by omega)
      (first | cases eo24 | (injection eo24 with ea_ en_ ec_; (first | subst ea_ | (injection ea_ with ea_; subst ea_)); subst ec_; clear en_))
      have GB24 := Aside0.mk gb24
      have GG24 := Aside0.mk HG24
      clear gb24 gl24 HG24
      have HMgo24 := Aside0.mk (show (P0_ go24 ∨ w.heap.size ≤ go24) from (HO_0.out.1 _ rfl))
      (first | simp only [add_plain] at hx196_0 | skip)
      obtain ⟨hx24_0, hf24_0⟩ := Kd.R_celln 0 HO_0.out ((ji20) : Int) p24 q24
      replace p24 := eq_true p24
      replace q24 := eq_true q24
      have HP26 := Kd.R_putg HO_0.out ((ji20) : Int) (IntKind.u64.wrap (wrap64 ((wrap64 ((wrap64 ((wrap64 (rd x0_1 (ji20))) - (wrap64 (Int.tmod x10_1 1000000000)))) - x9_1)) + 1000000000)))
      go_wp2_with (first | ((with_reducible refine gate_store (t := 139) (p := 56) rfl ?_); refine store_event (t := 139) (p := 56) (v := ?vo_w27) (w1 := (wr.setCell ⟨go24, ((ji20) : Int).toNat, none⟩ (.int .u64 (IntKind.u64.wrap (wrap64 ((wrap64 ((wrap64 ((wrap64 (rd x0_1 (ji20))) - (wrap64 (Int.tmod x10_1 1000000000)))) - x9_1)) + 1000000000)))))) ?hg ?ho ?hn ?hr ?_; (case ho => rfl); (case hg => rfl); (case hn => rfl); (case hr => go_simp; try rfl); intro w27 hw; have hg : wr.grownBy w27 (some go24) := (by rw [hw]; exact HP26.2); have hp_ : Kd.R (Kd.int .u64) 139 w27 w0.heap.size (fun k_ => (P0_ k_ ∨ w.heap.size ≤ k_)) (.slice (some ⟨go24, 0, none⟩) x0_1.length co25) y197 := (by rw [hw, Ny197.out]; exact HP26.1); clear HP26; have n0_ := Aside0.mk (hp_); have n1_ := Aside0.mk ((by rw [hw]; exact below_set (HB.out) GB24.out : Below w0.heap.size w0 w27)); have n2_ := Aside0.mk (Kept.of_grown (S := (fun k_ => P0_ k_)) hg (by repeat (first | (with_reducible first | exact HK.out | apply Kept.alloc | apply Kept.drewN | apply Kept.drew) | exact HK.out)) (fun k_ e_ => (HO_0.out.1 k_ e_))); clear HO_0; clear HB; clear HK; have HO_0 := n0_; have HB := n1_; have HK := n2_; clear n0_ n1_ n2_; clear hg hw hp_))
      go_roundg k1
      case measure => have := HK1.out; omega
      case rel => exact ⟨(y197), (1), (IntKind.u64.wrap (Int.tdiv x10_1 1000000000)), (wrap64 (x11_1 + 1)), (by first | rfl | (simp; done) | (simp [*]; done)), (by first | rfl | (simp; done) | (simp [*]; done)), (by first | rfl | (simp; done) | (simp [*]; done)), H', ⟨by have := HK1.out; omega⟩, ⟨by apply_rules [HO_0.out, Kd.R_alloc, Kd.R_drewN, Kd.R_drew]⟩, ⟨by repeat (first | (with_reducible first | exact HK.out | apply Kept.alloc | apply Kept.drewN | apply Kept.drew) | exact HK.out)⟩, ⟨by apply_rules [HB.out, below_alloc, pw_below_drewN, below_drew1]⟩⟩
     ·rw [if_neg c23] at H
      have c23b0 : decide ((wrap64 ((wrap64 ((wrap64 (rd x0_1 (ji20))) - (wrap64 (Int.tmod x10_1 1000000000)))) - x9_1)) < 0) = false := decide_eq_false c23
      clear c23
      obtain ⟨y198, hy198⟩ : ∃ y_ : List Int, y_ = (x0_1.set ((ji20) : Int).toNat (IntKind.u64.wrap (wrap64 ((wrap64 ((wrap64 (rd x0_1 (ji20))) - (wrap64 (Int.tmod x10_1 1000000000)))) - x9_1)))) := ⟨_, rfl⟩
      replace H : (decimal_pieces_take.l0 k1 y198 l1 a2 a3 0 (IntKind.u64.wrap (Int.tdiv x10_1 1000000000)) (wrap64 (x11_1 + 1))) = some (r1, r2) := by first | (rw [hy198]; with_reducible exact H) | (have H2_ := (Option.bind_some _ _).symm.trans H; rw [hy198]; with_reducible exact H2_) | (have H2_ := (Option.bind_some _ _).symm.trans H; with_reducible exact H2_) | with_reducible exact H | (rw [hy198]; exact H) | exact H
      have Ny198 := Aside0.mk hy198
      clear hy198
      have H' := Aside0.mk H
      clear H
      obtain ⟨Ao29, co29, eo29⟩ := Kd.R_slice HO_0.out
      subst eo29
      have p196 : 0 ≤ ((ji20) : Int) := of_decide_eq_true (by assumption)
      have q196 : (ji20) < (x0_1.length : Int) := of_decide_eq_true (by assumption)
      obtain ⟨ad196, e196, hx196_0⟩ := Kd.at_int (Kd.R_reads' HO_0.out).2.2 (ji20) p196 q196
      cases e196
      replace p196 := eq_true p196
      replace q196 := eq_true q196
      have p28 : 0 ≤ ((ji20) : Int) := of_decide_eq_true (by assumption)
      have q28 : ((ji20) : Int) < ((x0_1.length : Int) : Int) := of_decide_eq_true (by assumption)
      obtain ⟨go28, co28, eo28, gb28, gl28, cl28, HG28⟩ := Kd.R_form HO_0.out (by omega)
      (first | cases eo28 | (injection eo28 with ea_ en_ ec_; (first | subst ea_ | (injection ea_ with ea_; subst ea_)); subst ec_; clear en_))
      have GB28 := Aside0.mk gb28
      have GG28 := Aside0.mk HG28
      clear gb28 gl28 HG28
      have HMgo28 := Aside0.mk (show (P0_ go28 ∨ w.heap.size ≤ go28) from (HO_0.out.1 _ rfl))
      (first | simp only [add_plain] at hx196_0 | skip)
      obtain ⟨hx28_0, hf28_0⟩ := Kd.R_celln 0 HO_0.out ((ji20) : Int) p28 q28
      replace p28 := eq_true p28
      replace q28 := eq_true q28
      have HP30 := Kd.R_putg HO_0.out ((ji20) : Int) (IntKind.u64.wrap (wrap64 ((wrap64 ((wrap64 (rd x0_1 (ji20))) - (wrap64 (Int.tmod x10_1 1000000000)))) - x9_1)))
      go_wp2_with (first | ((with_reducible refine gate_store (t := 139) (p := 56) rfl ?_); refine store_event (t := 139) (p := 56) (v := ?vo_w31) (w1 := (wr.setCell ⟨go28, ((ji20) : Int).toNat, none⟩ (.int .u64 (IntKind.u64.wrap (wrap64 ((wrap64 ((wrap64 (rd x0_1 (ji20))) - (wrap64 (Int.tmod x10_1 1000000000)))) - x9_1)))))) ?hg ?ho ?hn ?hr ?_; (case ho => rfl); (case hg => rfl); (case hn => rfl); (case hr => go_simp; try rfl); intro w31 hw; have hg : wr.grownBy w31 (some go28) := (by rw [hw]; exact HP30.2); have hp_ : Kd.R (Kd.int .u64) 139 w31 w0.heap.size (fun k_ => (P0_ k_ ∨ w.heap.size ≤ k_)) (.slice (some ⟨go28, 0, none⟩) x0_1.length co29) y198 := (by rw [hw, Ny198.out]; exact HP30.1); clear HP30; have n0_ := Aside0.mk (hp_); have n1_ := Aside0.mk ((by rw [hw]; exact below_set (HB.out) GB28.out : Below w0.heap.size w0 w31)); have n2_ := Aside0.mk (Kept.of_grown (S := (fun k_ => P0_ k_)) hg (by repeat (first | (with_reducible first | exact HK.out | apply Kept.alloc | apply Kept.drewN | apply Kept.drew) | exact HK.out)) (fun k_ e_ => (HO_0.out.1 k_ e_))); clear HO_0; clear HB; clear HK; have HO_0 := n0_; have HB := n1_; have HK := n2_; clear n0_ n1_ n2_; clear hg hw hp_))
      go_roundg k1
      case measure => have := HK1.out; omega
      case rel => exact ⟨(y198), (0), (IntKind.u64.wrap (Int.tdiv x10_1 1000000000)), (wrap64 (x11_1 + 1)), (by first | rfl | (simp; done) | (simp [*]; done)), (by first | rfl | (simp; done) | (simp [*]; done)), (by first | rfl | (simp; done) | (simp [*]; done)), H', ⟨by have := HK1.out; omega⟩, ⟨by apply_rules [HO_0.out, Kd.R_alloc, Kd.R_drewN, Kd.R_drew]⟩, ⟨by repeat (first | (with_reducible first | exact HK.out | apply Kept.alloc | apply Kept.drewN | apply Kept.drew) | exact HK.out)⟩, ⟨by apply_rules [HB.out, below_alloc, pw_below_drewN, below_drew1]⟩⟩
   ·rw [if_neg c5] at H
    have c5b0 : decide (x11_1 ≤ (l1.length : Int)) = false := decide_eq_false c5
    clear c5
    simp only [Option.some.injEq, Prod.mk.injEq] at H
    obtain ⟨rfl, rfl⟩ := H
    go_wp2
    go_ret
    exact ⟨by first | rfl | simp [*], by (with_reducible repeat (first | apply Kd.R_alloc | apply Kd.R_drewN | apply Kd.R_drew)); exact HO_0.out, by apply_rules [HB.out, below_alloc, pw_below_drewN, below_drew1], by repeat (first | (with_reducible first | exact HK.out | apply Kept.alloc | apply Kept.drewN | apply Kept.drew) | exact HK.out)⟩
end Go.Proofs.YtccebdpjdpjgnaaGreatDoor.P
end
