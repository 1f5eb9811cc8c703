/-
parts of the walks and of the plain laws: PprimeText PprimeParse Pschismalaw11text
-/
import Derived.Test.YtccebdpjdpjgnaaGreatDoorTX29
set_option linter.unusedVariables false
set_option linter.unusedSimpArgs false
section
namespace Go.Proofs.YtccebdpjdpjgnaaGreatDoor.P
open Go.RowKit Go.Proofs.YtccebdpjdpjgnaaGreatDoorW.PrintWords Go.Proofs.YtccebdpjdpjgnaaGreatDoorW.PrintLast Go.Proofs.YtccebdpjdpjgnaaGreatDoorW.PrintMore
attribute [local go_sem] max2_int min2_int max_two min_two max_three min_three max_four min_four
def prime_Text.l0 : Nat → List ByteArray → List Int → Int → Int → Option (ByteArray × Int)
 | 0, _, _, _, _ => none
 | k + 1, x5, x13, x14, x15 => if x15 < x14 then (if 0 ≤ x15 then (if x15 < (x13.length : Int) then ((strconv_Itoa.f (rd x13 x15)).bind fun t1203 => (if x5.length < 8796093022208 then (prime_Text.l0 k (x5 ++ [t1203]) x13 x14 (wrap64 (x15 + 1))) else (none))) else (none)) else (none)) else ((strings_Join.f x5 (⟨#[46]⟩ : ByteArray)).bind fun t1207 => (some (t1207, 0)))
def prime_Text.f (k : Nat) (l0 : List Int) : Option (ByteArray × Int) := (prime_Check.f k l0).bind fun t1201 => (if t1201 = 0 then (prime_Text.l0 k ([] : List ByteArray) l0 (l0.length : Int) 0) else (some ((⟨#[]⟩ : ByteArray), t1201)))
set_option maxHeartbeats 8000000 in
set_option maxRecDepth 100000 in
theorem prime_Text.calls (k : Nat) (A0 : Option Addr) (c0 : Nat) (l0 : List Int) (r1 : ByteArray) (r2 : Int) (w : World) (hT : TabW w) (hr0 : Kd.C (Kd.int .i64) w A0 l0.length l0) (hc0 : l0.length ≤ c0) (h : prime_Text.f k l0 = some (r1, r2)) :
  Calls Tryz.prog 72 #[.slice A0 l0.length c0] w fun e w' => e = .returned (.tuple #[.string r1, .int .i64 r2]) ∧ Below w.heap.size w w' := by
 have HR0 := Aside0.mk hr0
 have HC0 := Aside0.mk hc0
 clear hr0 hc0
 have HB := Aside0.mk (Below.refl w.heap.size w)
 have H : ((prime_Check.f k l0).bind fun t1201 => (if t1201 = 0 then (prime_Text.l0 k ([] : List ByteArray) l0 (l0.length : Int) 0) else (some ((⟨#[]⟩ : ByteArray), t1201)))) = some (r1, r2) := h
 clear h
 replace H := Option.bind_eq_some_iff.mp H
 obtain ⟨t1201, A20, H⟩ := H
 try dsimp only at H
 have A2 := Aside0.mk A20
 clear A20
 by_cases c3 : t1201 = 0
 ·rw [if_pos c3] at H
  have c3b0 : (t1201 == 0) = true := beq_iff_eq.mpr c3
  have c3b1 : (t1201 != 0) = false := bne_eq_false_iff_eq.mpr c3
  clear c3
  have H' := Aside0.mk H
  clear H
  go_enter Tryz.func72, Tryz.ntmps72
  go_wp2_with (first | ((with_reducible refine gate_callee (f := 29) rfl ?_); refine goesK (some 9) Tryz.func29 [.slice A0 l0.length c0] rfl rfl ?_; (with_reducible refine (prime_Check.calls k _ _ l0 t1201 _ ?side1 ?side2 A2.out).mono ?_); (case side1 => apply_rules [HR0.out, Kd.C_alloc, Kd.C_drewN, Kd.C_drew]); (case side2 => exact HC0.out); rintro e w' ⟨rfl, ⟨nd, rfl⟩⟩; refine ⟨_, rfl, ?_⟩))
  go_loopg [5, 15] k (fun kq v5 v15 w' => ∃ (x5_1 : List ByteArray) (x15_1 : Int), v15 = .int .i64 x15_1 ∧ Aside0 (prime_Text.l0 kq x5_1 l0 (l0.length : Int) x15_1 = some (r1, r2)) ∧ Aside0 (kq ≤ k) ∧ Aside0 (Kd.R Kd.string 9 w' w.heap.size (fun _ => True) v5 x5_1) ∧ Aside0 (Below w.heap.size w w'))
  case atStart => exact ⟨(([] : List ByteArray)), (0), (by first | rfl | (simp; done) | (simp [*]; done)), H', ⟨Nat.le_refl _⟩, ⟨by first | exact Kd.R_nil _ _ _ _ _ | exact Kd.N_nil _ _ _ _ _ | exact Kd.V_nil _ _ _ _ _ | exact Kd.Q_nil _ _ _ _ _ | exact Kd.S_nil _ _ _ _ _⟩, ⟨by apply_rules [HB.out, below_alloc, pw_below_drewN, below_drew1]⟩⟩
  case round =>
   clear H'
   obtain ⟨x5_1, x15_1, rfl, HA, HK1, HO_5, HB⟩ := hrel
   cases gk with
   | zero => exact absurd HA.out (by simp [prime_Text.l0])
   | succ k1 =>
    have H := HA.out
    clear HA
    simp only [prime_Text.l0] at H
    by_cases c4 : x15_1 < (l0.length : Int)
    ·rw [if_pos c4] at H
     have c4b0 : decide (x15_1 < (l0.length : Int)) = true := decide_eq_true c4
     clear c4
     by_cases c5 : 0 ≤ x15_1
     case neg => rw [if_neg c5] at H; exact absurd H (by simp)
     rw [if_pos c5] at H
     have c5b0 : decide (0 ≤ x15_1) = true := decide_eq_true c5
     clear c5
     by_cases c6 : x15_1 < (l0.length : Int)
     case neg => rw [if_neg c6] at H; exact absurd H (by simp)
     rw [if_pos c6] at H
     have c6b0 : decide (x15_1 < (l0.length : Int)) = true := decide_eq_true c6
     clear c6
     replace H := Option.bind_eq_some_iff.mp H
     obtain ⟨t1203, A70, H⟩ := H
     try dsimp only at H
     have A7 := Aside0.mk A70
     clear A70
     by_cases c8 : x5_1.length < 8796093022208
     case neg => rw [if_neg c8] at H; exact absurd H (by simp)
     rw [if_pos c8] at H
     have LMc8 := Aside0.mk c8
     clear c8
     obtain ⟨y1204, hy1204⟩ : ∃ y_ : List ByteArray, y_ = (x5_1 ++ [t1203]) := ⟨_, rfl⟩
     replace H : (prime_Text.l0 k1 y1204 l0 (l0.length : Int) (wrap64 (x15_1 + 1))) = some (r1, r2) := by first | (rw [hy1204]; with_reducible exact H) | (have H2_ := (Option.bind_some _ _).symm.trans H; rw [hy1204]; with_reducible exact H2_) | (have H2_ := (Option.bind_some _ _).symm.trans H; with_reducible exact H2_) | with_reducible exact H | (rw [hy1204]; exact H) | exact H
     have Ny1204 := Aside0.mk hy1204
     clear hy1204
     have H' := Aside0.mk H
     clear H
     have p1202 : 0 ≤ (x15_1 : Int) := of_decide_eq_true (by assumption)
     have q1202 : x15_1 < (l0.length : Int) := of_decide_eq_true (by assumption)
     obtain ⟨ad1202, e1202, hx1202_0⟩ := Kd.at_int HR0.out x15_1 p1202 q1202
     cases e1202
     replace hx1202_0 := (HB.out.cell (World.block_lt_of_cell? w _ hx1202_0)).trans hx1202_0
     replace p1202 := eq_true p1202
     replace q1202 := eq_true q1202
     go_wp2_with (first | ((with_reducible refine gate_callee (f := 96) rfl ?_); refine goesK (some 21) Tryz.func96 [.int .i64 (rd l0 x15_1)] rfl rfl ?_; (with_reducible refine (strconv_Itoa.calls (rd l0 x15_1) t1203 _ ?side1 A7.out).mono ?_); (case side1 => refine TabW.below hT ?_; apply_rules [HB.out, below_alloc, pw_below_drewN, below_drew1]); rintro e w9 ⟨rfl, hb⟩; refine ⟨_, rfl, ?_⟩; replace HO_5 := Aside0.mk (Kd.R_below (by apply_rules [HO_5.out, Kd.R_alloc, Kd.R_drewN, Kd.R_drew]) hb); replace HB := Aside0.mk (below_step (by apply_rules [HB.out, below_alloc, pw_below_drewN, below_drew1]) hb); (try clear hb)) | ((with_reducible refine gate_builtin (b := .append) (xs := #[.tmp 19, .tmp 22]) rfl ?_); at_builtin; refine Kd.R_append Kd.string (w0 := w) w.heap.size rfl (.tmp 19) (.tmp 22) 126 9 (.string ⟨#[]⟩) 16 rfl Tryz.underlying126 info9 rfl (by decide) (by omega) u5 x5_1 t1203 [.string t1203] (fun _ => True) (fun _ => False) rfl rfl ?aP (fun _ hk => hk.elim) ?aF ?aO ?aB ?aS ?aL ?_; (case aP => exact rfl); (case aB => exact (by apply_rules [HB.out, below_alloc, pw_below_drewN, below_drew1])); (case aF => exact (fun _ _ => trivial)); (case aO => exact (by apply_rules [HO_5.out, Kd.R_alloc, Kd.R_drewN, Kd.R_drew])); (case aS => exact (below_size (by apply_rules [HB.out, below_alloc, pw_below_drewN, below_drew1]))); (case aL => have := LMc8.out; omega); intro v1205 w10 ho hb hg hat; rw [← Ny1204.out] at ho; replace HB := Aside0.mk (hb); have HO1206 := Aside0.mk (ho); clear HO_5; clear ho hb hg hat))
     go_roundg k1
     case measure => have := HK1.out; omega
     case rel => exact ⟨(y1204), (wrap64 (x15_1 + 1)), (by first | rfl | (simp; done) | (simp [*]; done)), H', ⟨by have := HK1.out; omega⟩, ⟨by apply_rules [HO1206.out, Kd.R_alloc, Kd.R_drewN, Kd.R_drew]⟩, ⟨by apply_rules [HB.out, below_alloc, pw_below_drewN, below_drew1]⟩⟩
    ·rw [if_neg c4] at H
     have c4b0 : decide (x15_1 < (l0.length : Int)) = false := decide_eq_false c4
     clear c4
     replace H := Option.bind_eq_some_iff.mp H
     obtain ⟨t1207, A110, H⟩ := H
     try dsimp only at H
     have A11 := Aside0.mk A110
     clear A110
     simp only [Option.some.injEq, Prod.mk.injEq] at H
     obtain ⟨rfl, rfl⟩ := H
     obtain ⟨Ao12, co12, eo12⟩ := Kd.R_slice HO_5.out
     subst eo12
     go_wp2_with (first | ((with_reducible refine gate_callee (f := 97) rfl ?_); refine goesK (some 26) Tryz.func97 [.slice Ao12 x5_1.length co12, .string (⟨#[46]⟩ : ByteArray)] rfl rfl ?_; (with_reducible refine (strings_Join.calls _ _ x5_1 (⟨#[46]⟩ : ByteArray) t1207 _ ?side1 ?side2 A11.out).mono ?_); (case side1 => apply_rules [(Kd.R_reads' HO_5.out).2.2, Kd.C_alloc, Kd.C_drewN, Kd.C_drew]); (case side2 => exact (Kd.R_reads' HO_5.out).2.1); rintro e w13 ⟨rfl, hb⟩; refine ⟨_, rfl, ?_⟩; replace HO_5 := Aside0.mk (Kd.R_below (by apply_rules [HO_5.out, Kd.R_alloc, Kd.R_drewN, Kd.R_drew]) hb); replace HB := Aside0.mk (below_step (by apply_rules [HB.out, below_alloc, pw_below_drewN, below_drew1]) hb); (try clear hb)))
     go_ret2
     exact ⟨by first | rfl | simp [*], by apply_rules [HB.out, below_alloc, pw_below_drewN, below_drew1]⟩
 ·rw [if_neg c3] at H
  have c3b0 : (t1201 == 0) = false := beq_eq_false_iff_ne.mpr c3
  have c3b1 : (t1201 != 0) = true := bne_iff_ne.mpr c3
  simp only [Option.some.injEq, Prod.mk.injEq] at H
  obtain ⟨rfl, rfl⟩ := H
  go_enter Tryz.func72, Tryz.ntmps72
  go_wp2_with (first | ((with_reducible refine gate_callee (f := 29) rfl ?_); refine goesK (some 9) Tryz.func29 [.slice A0 l0.length c0] rfl rfl ?_; (with_reducible refine (prime_Check.calls k _ _ l0 t1201 _ ?side1 ?side2 A2.out).mono ?_); (case side1 => apply_rules [HR0.out, Kd.C_alloc, Kd.C_drewN, Kd.C_drew]); (case side2 => exact HC0.out); rintro e w' ⟨rfl, ⟨nd, rfl⟩⟩; refine ⟨_, rfl, ?_⟩))
  go_ret2
  exact ⟨by first | rfl | simp [*], by apply_rules [HB.out, below_alloc, pw_below_drewN, below_drew1]⟩
def prime_Parse.l0 : Nat → List Int → List ByteArray → Int → Int → Option (List Int × Int)
 | 0, _, _, _, _ => none
 | k + 1, x4, x14, x15, x16 => if x16 < x15 then (if 0 ≤ x16 then (if x16 < (x14.length : Int) then ((strconv_Atoi.f (rdOf ByteArray.empty x14 x16)).bind fun bt1213 => (if bt1213.2.isNone = true then (if bt1213.1 < 0 then (some (([] : List Int), 15)) else (if bt1213.1 > 999 then (some (([] : List Int), 15)) else ((strconv_Itoa.f bt1213.1).bind fun t1216 => (if t1216.toList = (rdOf ByteArray.empty x14 x16).toList then (if x4.length < 17592186044416 then (prime_Parse.l0 k (x4 ++ [bt1213.1]) x14 x15 (wrap64 (x16 + 1))) else (none)) else (some (([] : List Int), 15)))))) else (some (([] : List Int), 15)))) else (none)) else (none)) else ((prime_Check.f k x4).bind fun t1211 => (if t1211 = 0 then (some (x4, 0)) else (some (([] : List Int), t1211))))
def prime_Parse.f (k : Nat) (a0 : ByteArray) : Option (List Int × Int) := if (a0.size : Int) > 40 then (some (([] : List Int), 15)) else ((strings_Split.f a0 (⟨#[46]⟩ : ByteArray)).bind fun t1208 => (prime_Parse.l0 k ([] : List Int) t1208 (t1208.length : Int) 0))
set_option maxHeartbeats 8000000 in
set_option maxRecDepth 100000 in
theorem prime_Parse.calls (k : Nat) (a0 : ByteArray) (r1 : List Int) (r2 : Int) (w : World) (hT : TabW w) (h : prime_Parse.f k a0 = some (r1, r2)) :
  Calls Tryz.prog 73 #[.string a0] w fun e w' => ∃ v0_ : Value, e = .returned (.tuple #[v0_, .int .i64 r2]) ∧ Kd.R (Kd.int .i64) 3 w' w.heap.size (fun _ => True) v0_ r1 ∧ Below w.heap.size w w' := by
 have hu162 := Tryz.underlying162
 have HB := Aside0.mk (Below.refl w.heap.size w)
 have H : (if (a0.size : Int) > 40 then (some (([] : List Int), 15)) else ((strings_Split.f a0 (⟨#[46]⟩ : ByteArray)).bind fun t1208 => (prime_Parse.l0 k ([] : List Int) t1208 (t1208.length : Int) 0))) = some (r1, r2) := h
 clear h
 by_cases c2 : (a0.size : Int) > 40
 ·rw [if_pos c2] at H
  have c2b0 : decide (40 < (a0.size : Int)) = true := decide_eq_true c2
  have c2b1 : decide (40 < a0.size) = true := decide_eq_true (by omega)
  clear c2
  simp only [Option.some.injEq, Prod.mk.injEq] at H
  obtain ⟨rfl, rfl⟩ := H
  go_enter Tryz.func73, Tryz.ntmps73
  go_wp2
  go_ret2
  exact ⟨(.slice none 0 0), by first | rfl | simp [*], by first | exact Kd.R_nil _ _ _ _ _ | exact Kd.N_nil _ _ _ _ _ | exact Kd.V_nil _ _ _ _ _ | exact Kd.Q_nil _ _ _ _ _ | exact Kd.S_nil _ _ _ _ _, by apply_rules [HB.out, below_alloc, pw_below_drewN, below_drew1]⟩
 ·rw [if_neg c2] at H
  have c2b0 : decide (40 < (a0.size : Int)) = false := decide_eq_false c2
  have c2b1 : decide (40 < a0.size) = false := decide_eq_false (by omega)
  clear c2
  replace H := Option.bind_eq_some_iff.mp H
  obtain ⟨t1208, A30, H⟩ := H
  try dsimp only at H
  have A3 := Aside0.mk A30
  clear A30
  have H' := Aside0.mk H
  clear H
  go_enter Tryz.func73, Tryz.ntmps73
  go_wp2_with (first | ((with_reducible refine gate_callee (f := 132) rfl ?_); refine goesK (some 14) Tryz.func132 [.string a0, .string (⟨#[46]⟩ : ByteArray)] rfl rfl ?_; (with_reducible refine (strings_Split.calls a0 (⟨#[46]⟩ : ByteArray) t1208 _ ?side1 A3.out).mono ?_); (case side1 => refine TabW.below hT ?_; apply_rules [HB.out, below_alloc, pw_below_drewN, below_drew1]); rintro e w4 ⟨v1209, rfl, ho0, hb⟩; refine ⟨_, rfl, ?_⟩; have HO1210 := Aside0.mk (Kd.R_lower ho0 (below_size (by apply_rules [HB.out, below_alloc, pw_below_drewN, below_drew1]))); replace HB := Aside0.mk (below_step (by apply_rules [HB.out, below_alloc, pw_below_drewN, below_drew1]) hb); (try clear hb); (try clear ho0); obtain ⟨Ao5, co5, eo5⟩ := Kd.R_slice HO1210.out; subst eo5))
  go_loopg [4, 16] k (fun kq v4 v16 w' => ∃ (x4_1 : List Int) (x16_1 : Int), v16 = .int .i64 x16_1 ∧ Aside0 (prime_Parse.l0 kq x4_1 t1208 (t1208.length : Int) x16_1 = some (r1, r2)) ∧ Aside0 (kq ≤ k) ∧ Aside0 (Kd.R (Kd.int .i64) 3 w' w.heap.size (fun _ => True) v4 x4_1) ∧ Aside0 (Kd.R Kd.string 9 w' w.heap.size (fun _ => True) (.slice Ao5 t1208.length co5) t1208) ∧ Aside0 (Below w.heap.size w w'))
  case atStart => exact ⟨(([] : List Int)), (0), (by first | rfl | (simp; done) | (simp [*]; done)), H', ⟨Nat.le_refl _⟩, ⟨by first | exact Kd.R_nil _ _ _ _ _ | exact Kd.N_nil _ _ _ _ _ | exact Kd.V_nil _ _ _ _ _ | exact Kd.Q_nil _ _ _ _ _ | exact Kd.S_nil _ _ _ _ _⟩, ⟨by apply_rules [HO1210.out, Kd.R_alloc, Kd.R_drewN, Kd.R_drew]⟩, ⟨by apply_rules [HB.out, below_alloc, pw_below_drewN, below_drew1]⟩⟩
  case round =>
   clear H'
   obtain ⟨x4_1, x16_1, rfl, HA, HK1, HO_4, HO_14, HB⟩ := hrel
   cases gk with
   | zero => exact absurd HA.out (by simp [prime_Parse.l0])
   | succ k1 =>
    have H := HA.out
    clear HA
    simp only [prime_Parse.l0] at H
    by_cases c6 : x16_1 < (t1208.length : Int)
    ·rw [if_pos c6] at H
     have c6b0 : decide (x16_1 < (t1208.length : Int)) = true := decide_eq_true c6
     clear c6
     by_cases c7 : 0 ≤ x16_1
     case neg => rw [if_neg c7] at H; exact absurd H (by simp)
     rw [if_pos c7] at H
     have c7b0 : decide (0 ≤ x16_1) = true := decide_eq_true c7
     clear c7
     by_cases c8 : x16_1 < (t1208.length : Int)
     case neg => rw [if_neg c8] at H; exact absurd H (by simp)
     rw [if_pos c8] at H
     have c8b0 : decide (x16_1 < (t1208.length : Int)) = true := decide_eq_true c8
     clear c8
     replace H := Option.bind_eq_some_iff.mp H
     obtain ⟨⟨t1213, t1214⟩, A90, H⟩ := H
     try dsimp only at H
     have A9 := Aside0.mk A90
     clear A90
     rcases t1214 with _ | q1215
     ·have H1 : (if t1213 < 0 then (some (([] : List Int), 15)) else (if t1213 > 999 then (some (([] : List Int), 15)) else ((strconv_Itoa.f t1213).bind fun t1216 => (if t1216.toList = (rdOf ByteArray.empty t1208 x16_1).toList then (if x4_1.length < 17592186044416 then (prime_Parse.l0 k1 (x4_1 ++ [t1213]) t1208 (t1208.length : Int) (wrap64 (x16_1 + 1))) else (none)) else (some (([] : List Int), 15)))))) = some (r1, r2) := by rw [if_pos (show (none : Option Int).isNone = true by rfl)] at H; exact H
      clear H
      have H := H1
      clear H1
      try simp only [errW_none, errW_some]
      by_cases c10 : t1213 < 0
      ·rw [if_pos c10] at H
       have c10b0 : decide (t1213 < 0) = true := decide_eq_true c10
       clear c10
       simp only [Option.some.injEq, Prod.mk.injEq] at H
       obtain ⟨rfl, rfl⟩ := H
       have p1212 : 0 ≤ (x16_1 : Int) := of_decide_eq_true (by assumption)
       have q1212 : x16_1 < (t1208.length : Int) := of_decide_eq_true (by assumption)
       obtain ⟨ad1212, e1212, hx1212_0⟩ := Kd.at_string (Kd.R_reads' HO_14.out).2.2 x16_1 p1212 q1212
       cases e1212
       replace p1212 := eq_true p1212
       replace q1212 := eq_true q1212
       go_wp2_with (first | ((with_reducible refine gate_callee (f := 133) rfl ?_); refine goesK (some 22) Tryz.func133 [.string (rdOf ByteArray.empty t1208 x16_1)] rfl rfl ?_; (with_reducible refine (strconv_Atoi.calls (rdOf ByteArray.empty t1208 x16_1) t1213 none _ ?side1 A9.out).mono ?_); (case side1 => refine TabW.below hT ?_; apply_rules [HB.out, below_alloc, pw_below_drewN, below_drew1]); rintro e w11 ⟨ex_, rfl, hx_, hb⟩; refine ⟨_, rfl, ?_⟩; replace HO_4 := Aside0.mk (Kd.R_below (by apply_rules [HO_4.out, Kd.R_alloc, Kd.R_drewN, Kd.R_drew]) hb); replace HO_14 := Aside0.mk (Kd.R_below (by apply_rules [HO_14.out, Kd.R_alloc, Kd.R_drewN, Kd.R_drew]) hb); replace HB := Aside0.mk (below_step (by apply_rules [HB.out, below_alloc, pw_below_drewN, below_drew1]) hb); (try clear hb); (first | (have hx2_ := errIs_none hx_; clear hx_; subst hx2_) | (obtain ⟨qx_, hx2_⟩ := errIs_some hx_; clear hx_; subst hx2_) | skip)))
       go_ret2
       exact ⟨(.slice none 0 0), by first | rfl | simp [*], by first | exact Kd.R_nil _ _ _ _ _ | exact Kd.N_nil _ _ _ _ _ | exact Kd.V_nil _ _ _ _ _ | exact Kd.Q_nil _ _ _ _ _ | exact Kd.S_nil _ _ _ _ _, by apply_rules [HB.out, below_alloc, pw_below_drewN, below_drew1]⟩
      ·rw [if_neg c10] at H
       have c10b0 : decide (t1213 < 0) = false := decide_eq_false c10
       clear c10
       by_cases c12 : t1213 > 999
       ·rw [if_pos c12] at H
        have c12b0 : decide (999 < t1213) = true := decide_eq_true c12
        clear c12
        simp only [Option.some.injEq, Prod.mk.injEq] at H
        obtain ⟨rfl, rfl⟩ := H
        have p1212 : 0 ≤ (x16_1 : Int) := of_decide_eq_true (by assumption)
        have q1212 : x16_1 < (t1208.length : Int) := of_decide_eq_true (by assumption)
        obtain ⟨ad1212, e1212, hx1212_0⟩ := Kd.at_string (Kd.R_reads' HO_14.out).2.2 x16_1 p1212 q1212
        cases e1212
        replace p1212 := eq_true p1212
        replace q1212 := eq_true q1212
        go_wp2_with (first | ((with_reducible refine gate_callee (f := 133) rfl ?_); refine goesK (some 22) Tryz.func133 [.string (rdOf ByteArray.empty t1208 x16_1)] rfl rfl ?_; (with_reducible refine (strconv_Atoi.calls (rdOf ByteArray.empty t1208 x16_1) t1213 none _ ?side1 A9.out).mono ?_); (case side1 => refine TabW.below hT ?_; apply_rules [HB.out, below_alloc, pw_below_drewN, below_drew1]); rintro e w13 ⟨ex_, rfl, hx_, hb⟩; refine ⟨_, rfl, ?_⟩; replace HO_4 := Aside0.mk (Kd.R_below (by apply_rules [HO_4.out, Kd.R_alloc, Kd.R_drewN, Kd.R_drew]) hb); replace HO_14 := Aside0.mk (Kd.R_below (by apply_rules [HO_14.out, Kd.R_alloc, Kd.R_drewN, Kd.R_drew]) hb); replace HB := Aside0.mk (below_step (by apply_rules [HB.out, below_alloc, pw_below_drewN, below_drew1]) hb); (try clear hb); (first | (have hx2_ := errIs_none hx_; clear hx_; subst hx2_) | (obtain ⟨qx_, hx2_⟩ := errIs_some hx_; clear hx_; subst hx2_) | skip)))
        go_ret2
        exact ⟨(.slice none 0 0), by first | rfl | simp [*], by first | exact Kd.R_nil _ _ _ _ _ | exact Kd.N_nil _ _ _ _ _ | exact Kd.V_nil _ _ _ _ _ | exact Kd.Q_nil _ _ _ _ _ | exact Kd.S_nil _ _ _ _ _, by apply_rules [HB.out, below_alloc, pw_below_drewN, below_drew1]⟩
       ·rw [if_neg c12] at H
        have c12b0 : decide (999 < t1213) = false := decide_eq_false c12
        clear c12
        replace H := Option.bind_eq_some_iff.mp H
        obtain ⟨t1216, A140, H⟩ := H
        try dsimp only at H
        have A14 := Aside0.mk A140
        clear A140
        by_cases c15 : t1216.toList = (rdOf ByteArray.empty t1208 x16_1).toList
        ·rw [if_pos c15] at H
         have c15b0 : (t1216.toList == (rdOf ByteArray.empty t1208 x16_1).toList) = true := beq_iff_eq.mpr c15
         have c15b1 : (t1216.toList != (rdOf ByteArray.empty t1208 x16_1).toList) = false := bne_eq_false_iff_eq.mpr c15
         clear c15
         by_cases c16 : x4_1.length < 17592186044416
         case neg => rw [if_neg c16] at H; exact absurd H (by simp)
         rw [if_pos c16] at H
         have LMc16 := Aside0.mk c16
         clear c16
         obtain ⟨y1217, hy1217⟩ : ∃ y_ : List Int, y_ = (x4_1 ++ [t1213]) := ⟨_, rfl⟩
         replace H : (prime_Parse.l0 k1 y1217 t1208 (t1208.length : Int) (wrap64 (x16_1 + 1))) = some (r1, r2) := by first | (rw [hy1217]; with_reducible exact H) | (have H2_ := (Option.bind_some _ _).symm.trans H; rw [hy1217]; with_reducible exact H2_) | (have H2_ := (Option.bind_some _ _).symm.trans H; with_reducible exact H2_) | with_reducible exact H | (rw [hy1217]; exact H) | exact H
         have Ny1217 := Aside0.mk hy1217
         clear hy1217
         have H' := Aside0.mk H
         clear H
         have p1212 : 0 ≤ (x16_1 : Int) := of_decide_eq_true (by assumption)
         have q1212 : x16_1 < (t1208.length : Int) := of_decide_eq_true (by assumption)
         obtain ⟨ad1212, e1212, hx1212_0⟩ := Kd.at_string (Kd.R_reads' HO_14.out).2.2 x16_1 p1212 q1212
         cases e1212
         replace p1212 := eq_true p1212
         replace q1212 := eq_true q1212
         go_wp2_with (first | ((with_reducible refine gate_callee (f := 133) rfl ?_); refine goesK (some 22) Tryz.func133 [.string (rdOf ByteArray.empty t1208 x16_1)] rfl rfl ?_; (with_reducible refine (strconv_Atoi.calls (rdOf ByteArray.empty t1208 x16_1) t1213 none _ ?side1 A9.out).mono ?_); (case side1 => refine TabW.below hT ?_; apply_rules [HB.out, below_alloc, pw_below_drewN, below_drew1]); rintro e w17 ⟨ex_, rfl, hx_, hb⟩; refine ⟨_, rfl, ?_⟩; replace HO_4 := Aside0.mk (Kd.R_below (by apply_rules [HO_4.out, Kd.R_alloc, Kd.R_drewN, Kd.R_drew]) hb); replace HO_14 := Aside0.mk (Kd.R_below (by apply_rules [HO_14.out, Kd.R_alloc, Kd.R_drewN, Kd.R_drew]) hb); replace HB := Aside0.mk (below_step (by apply_rules [HB.out, below_alloc, pw_below_drewN, below_drew1]) hb); (try clear hb); (first | (have hx2_ := errIs_none hx_; clear hx_; subst hx2_) | (obtain ⟨qx_, hx2_⟩ := errIs_some hx_; clear hx_; subst hx2_) | skip)) | (go_at_call 96; (with_reducible refine (strconv_Itoa.calls t1213 t1216 _ ?side1 A14.out).mono ?_); (case side1 => refine TabW.below hT ?_; apply_rules [HB.out, below_alloc, pw_below_drewN, below_drew1]); rintro e w18 ⟨rfl, hb⟩; replace HO_4 := Aside0.mk (Kd.R_below (by apply_rules [HO_4.out, Kd.R_alloc, Kd.R_drewN, Kd.R_drew]) hb); replace HO_14 := Aside0.mk (Kd.R_below (by apply_rules [HO_14.out, Kd.R_alloc, Kd.R_drewN, Kd.R_drew]) hb); replace HB := Aside0.mk (below_step (by apply_rules [HB.out, below_alloc, pw_below_drewN, below_drew1]) hb); (try clear hb)) | ((with_reducible refine gate_builtin (b := .append) (xs := #[.tmp 41, .tmp 43]) rfl ?_); at_builtin; refine Kd.R_append (Kd.int .i64) (w0 := w) w.heap.size rfl (.tmp 41) (.tmp 43) 23 3 (.int .i64 0) 8 rfl Tryz.underlying23 info3 rfl (by decide) (by omega) u4 x4_1 t1213 [.int .i64 t1213] (fun _ => True) (fun _ => False) rfl rfl ?aP (fun _ hk => hk.elim) ?aF ?aO ?aB ?aS ?aL ?_; (case aP => exact rfl); (case aB => exact (by apply_rules [HB.out, below_alloc, pw_below_drewN, below_drew1])); (case aF => exact (fun _ _ => trivial)); (case aO => exact (by apply_rules [HO_4.out, Kd.R_alloc, Kd.R_drewN, Kd.R_drew])); (case aS => exact (below_size (by apply_rules [HB.out, below_alloc, pw_below_drewN, below_drew1]))); (case aL => have := LMc16.out; omega); intro v1218 w19 ho hb hg hat; rw [← Ny1217.out] at ho; replace HO_14 := Aside0.mk (Kd.R_over' (by apply_rules [HO_14.out, Kd.R_alloc, Kd.R_drewN, Kd.R_drew]) (Kd.R_typed (by apply_rules [HO_4.out, Kd.R_alloc, Kd.R_drewN, Kd.R_drew])) (by decide) hg); replace HB := Aside0.mk (hb); have HO1219 := Aside0.mk (ho); clear HO_4; clear ho hb hg hat))
         go_roundg k1
         case measure => have := HK1.out; omega
         case rel => exact ⟨(y1217), (wrap64 (x16_1 + 1)), (by first | rfl | (simp; done) | (simp [*]; done)), H', ⟨by have := HK1.out; omega⟩, ⟨by apply_rules [HO1219.out, Kd.R_alloc, Kd.R_drewN, Kd.R_drew]⟩, ⟨by apply_rules [HO_14.out, Kd.R_alloc, Kd.R_drewN, Kd.R_drew]⟩, ⟨by apply_rules [HB.out, below_alloc, pw_below_drewN, below_drew1]⟩⟩
        ·rw [if_neg c15] at H
         have c15b0 : (t1216.toList == (rdOf ByteArray.empty t1208 x16_1).toList) = false := beq_eq_false_iff_ne.mpr c15
         have c15b1 : (t1216.toList != (rdOf ByteArray.empty t1208 x16_1).toList) = true := bne_iff_ne.mpr c15
         simp only [Option.some.injEq, Prod.mk.injEq] at H
         obtain ⟨rfl, rfl⟩ := H
         have p1212 : 0 ≤ (x16_1 : Int) := of_decide_eq_true (by assumption)
         have q1212 : x16_1 < (t1208.length : Int) := of_decide_eq_true (by assumption)
         obtain ⟨ad1212, e1212, hx1212_0⟩ := Kd.at_string (Kd.R_reads' HO_14.out).2.2 x16_1 p1212 q1212
         cases e1212
         replace p1212 := eq_true p1212
         replace q1212 := eq_true q1212
         go_wp2_with (first | ((with_reducible refine gate_callee (f := 133) rfl ?_); refine goesK (some 22) Tryz.func133 [.string (rdOf ByteArray.empty t1208 x16_1)] rfl rfl ?_; (with_reducible refine (strconv_Atoi.calls (rdOf ByteArray.empty t1208 x16_1) t1213 none _ ?side1 A9.out).mono ?_); (case side1 => refine TabW.below hT ?_; apply_rules [HB.out, below_alloc, pw_below_drewN, below_drew1]); rintro e w20 ⟨ex_, rfl, hx_, hb⟩; refine ⟨_, rfl, ?_⟩; replace HO_4 := Aside0.mk (Kd.R_below (by apply_rules [HO_4.out, Kd.R_alloc, Kd.R_drewN, Kd.R_drew]) hb); replace HO_14 := Aside0.mk (Kd.R_below (by apply_rules [HO_14.out, Kd.R_alloc, Kd.R_drewN, Kd.R_drew]) hb); replace HB := Aside0.mk (below_step (by apply_rules [HB.out, below_alloc, pw_below_drewN, below_drew1]) hb); (try clear hb); (first | (have hx2_ := errIs_none hx_; clear hx_; subst hx2_) | (obtain ⟨qx_, hx2_⟩ := errIs_some hx_; clear hx_; subst hx2_) | skip)) | (go_at_call 96; (with_reducible refine (strconv_Itoa.calls t1213 t1216 _ ?side1 A14.out).mono ?_); (case side1 => refine TabW.below hT ?_; apply_rules [HB.out, below_alloc, pw_below_drewN, below_drew1]); rintro e w21 ⟨rfl, hb⟩; replace HO_4 := Aside0.mk (Kd.R_below (by apply_rules [HO_4.out, Kd.R_alloc, Kd.R_drewN, Kd.R_drew]) hb); replace HO_14 := Aside0.mk (Kd.R_below (by apply_rules [HO_14.out, Kd.R_alloc, Kd.R_drewN, Kd.R_drew]) hb); replace HB := Aside0.mk (below_step (by apply_rules [HB.out, below_alloc, pw_below_drewN, below_drew1]) hb); (try clear hb)))
         go_ret2
         exact ⟨(.slice none 0 0), by first | rfl | simp [*], by first | exact Kd.R_nil _ _ _ _ _ | exact Kd.N_nil _ _ _ _ _ | exact Kd.V_nil _ _ _ _ _ | exact Kd.Q_nil _ _ _ _ _ | exact Kd.S_nil _ _ _ _ _, by apply_rules [HB.out, below_alloc, pw_below_drewN, below_drew1]⟩
     ·have H1 : (some (([] : List Int), 15)) = some (r1, r2) := by rw [if_neg (show ¬ (some q1215).isNone = true by simp)] at H; exact H
      clear H
      have H := H1
      clear H1
      try simp only [errW_none, errW_some]
      simp only [Option.some.injEq, Prod.mk.injEq] at H
      obtain ⟨rfl, rfl⟩ := H
      have p1212 : 0 ≤ (x16_1 : Int) := of_decide_eq_true (by assumption)
      have q1212 : x16_1 < (t1208.length : Int) := of_decide_eq_true (by assumption)
      obtain ⟨ad1212, e1212, hx1212_0⟩ := Kd.at_string (Kd.R_reads' HO_14.out).2.2 x16_1 p1212 q1212
      cases e1212
      replace p1212 := eq_true p1212
      replace q1212 := eq_true q1212
      go_wp2_with (first | ((with_reducible refine gate_callee (f := 133) rfl ?_); refine goesK (some 22) Tryz.func133 [.string (rdOf ByteArray.empty t1208 x16_1)] rfl rfl ?_; (with_reducible refine (strconv_Atoi.calls (rdOf ByteArray.empty t1208 x16_1) t1213 (some q1215) _ ?side1 A9.out).mono ?_); (case side1 => refine TabW.below hT ?_; apply_rules [HB.out, below_alloc, pw_below_drewN, below_drew1]); rintro e w22 ⟨ex_, rfl, hx_, hb⟩; refine ⟨_, rfl, ?_⟩; replace HO_4 := Aside0.mk (Kd.R_below (by apply_rules [HO_4.out, Kd.R_alloc, Kd.R_drewN, Kd.R_drew]) hb); replace HO_14 := Aside0.mk (Kd.R_below (by apply_rules [HO_14.out, Kd.R_alloc, Kd.R_drewN, Kd.R_drew]) hb); replace HB := Aside0.mk (below_step (by apply_rules [HB.out, below_alloc, pw_below_drewN, below_drew1]) hb); (try clear hb); (first | (have hx2_ := errIs_none hx_; clear hx_; subst hx2_) | (obtain ⟨qx_, hx2_⟩ := errIs_some hx_; clear hx_; subst hx2_) | skip)))
      go_ret2
      exact ⟨(.slice none 0 0), by first | rfl | simp [*], by first | exact Kd.R_nil _ _ _ _ _ | exact Kd.N_nil _ _ _ _ _ | exact Kd.V_nil _ _ _ _ _ | exact Kd.Q_nil _ _ _ _ _ | exact Kd.S_nil _ _ _ _ _, by apply_rules [HB.out, below_alloc, pw_below_drewN, below_drew1]⟩
    ·rw [if_neg c6] at H
     have c6b0 : decide (x16_1 < (t1208.length : Int)) = false := decide_eq_false c6
     clear c6
     replace H := Option.bind_eq_some_iff.mp H
     obtain ⟨t1211, A230, H⟩ := H
     try dsimp only at H
     have A23 := Aside0.mk A230
     clear A230
     by_cases c24 : t1211 = 0
     ·rw [if_pos c24] at H
      have c24b0 : (t1211 == 0) = true := beq_iff_eq.mpr c24
      have c24b1 : (t1211 != 0) = false := bne_eq_false_iff_eq.mpr c24
      clear c24
      simp only [Option.some.injEq, Prod.mk.injEq] at H
      obtain ⟨rfl, rfl⟩ := H
      obtain ⟨Ao25, co25, eo25⟩ := Kd.R_slice HO_4.out
      subst eo25
      go_wp2_with (first | ((with_reducible refine gate_callee (f := 29) rfl ?_); refine goesK (some 47) Tryz.func29 [.slice Ao25 x4_1.length co25] rfl rfl ?_; (with_reducible refine (prime_Check.calls k1 _ _ x4_1 t1211 _ ?side1 ?side2 A23.out).mono ?_); (case side1 => apply_rules [(Kd.R_reads' HO_4.out).2.2, Kd.C_alloc, Kd.C_drewN, Kd.C_drew]); (case side2 => exact (Kd.R_reads' HO_4.out).2.1); rintro e w' ⟨rfl, ⟨nd, rfl⟩⟩; refine ⟨_, rfl, ?_⟩))
      go_ret2
      exact ⟨_, by first | rfl | simp [*], by (with_reducible repeat (first | apply Kd.R_alloc | apply Kd.R_drewN | apply Kd.R_drew)); exact HO_4.out, by apply_rules [HB.out, below_alloc, pw_below_drewN, below_drew1]⟩
     ·rw [if_neg c24] at H
      have c24b0 : (t1211 == 0) = false := beq_eq_false_iff_ne.mpr c24
      have c24b1 : (t1211 != 0) = true := bne_iff_ne.mpr c24
      simp only [Option.some.injEq, Prod.mk.injEq] at H
      obtain ⟨rfl, rfl⟩ := H
      obtain ⟨Ao26, co26, eo26⟩ := Kd.R_slice HO_4.out
      subst eo26
      go_wp2_with (first | ((with_reducible refine gate_callee (f := 29) rfl ?_); refine goesK (some 47) Tryz.func29 [.slice Ao26 x4_1.length co26] rfl rfl ?_; (with_reducible refine (prime_Check.calls k1 _ _ x4_1 t1211 _ ?side1 ?side2 A23.out).mono ?_); (case side1 => apply_rules [(Kd.R_reads' HO_4.out).2.2, Kd.C_alloc, Kd.C_drewN, Kd.C_drew]); (case side2 => exact (Kd.R_reads' HO_4.out).2.1); rintro e w' ⟨rfl, ⟨nd, rfl⟩⟩; refine ⟨_, rfl, ?_⟩))
      go_ret2
      exact ⟨(.slice none 0 0), by first | rfl | simp [*], by first | exact Kd.R_nil _ _ _ _ _ | exact Kd.N_nil _ _ _ _ _ | exact Kd.V_nil _ _ _ _ _ | exact Kd.Q_nil _ _ _ _ _ | exact Kd.S_nil _ _ _ _ _, by apply_rules [HB.out, below_alloc, pw_below_drewN, below_drew1]⟩
def schismalaw11_text.l0 : Nat → List ByteArray → List Int → Int → Int → Option (ByteArray)
 | 0, _, _, _, _ => none
 | k + 1, x3, x6, x7, x8 => if x8 < x7 then (if 0 ≤ x8 then (if x8 < (x6.length : Int) then ((strconv_Itoa.f (rd x6 x8)).bind fun t1221 => (if x3.length < 8796093022208 then (schismalaw11_text.l0 k (x3 ++ [t1221]) x6 x7 (wrap64 (x8 + 1))) else (none))) else (none)) else (none)) else ((strings_Join.f x3 (⟨#[46]⟩ : ByteArray)).bind fun t1225 => (some t1225))
def schismalaw11_text.f (k : Nat) (l0 : List Int) : Option (ByteArray) := schismalaw11_text.l0 k ([] : List ByteArray) l0 (l0.length : Int) 0
set_option maxHeartbeats 8000000 in
set_option maxRecDepth 100000 in
theorem schismalaw11_text.calls (k : Nat) (A0 : Option Addr) (c0 : Nat) (l0 : List Int) (r : ByteArray) (w : World) (hT : TabW w) (hr0 : Kd.C (Kd.int .i64) w A0 l0.length l0) (hc0 : l0.length ≤ c0) (h : schismalaw11_text.f k l0 = some r) :
  Calls Tryz.prog 74 #[.slice A0 l0.length c0] w fun e w' => e = .returned (.string r) ∧ Below w.heap.size w w' := by
 have HR0 := Aside0.mk hr0
 have HC0 := Aside0.mk hc0
 clear hr0 hc0
 have HB := Aside0.mk (Below.refl w.heap.size w)
 have H : (schismalaw11_text.l0 k ([] : List ByteArray) l0 (l0.length : Int) 0) = some r := h
 clear h
 have H' := Aside0.mk H
 clear H
 go_enter Tryz.func74, Tryz.ntmps74
 go_wp2
 go_loopg [3, 8] k (fun kq v3 v8 w' => ∃ (x3_1 : List ByteArray) (x8_1 : Int), v8 = .int .i64 x8_1 ∧ Aside0 (schismalaw11_text.l0 kq x3_1 l0 (l0.length : Int) x8_1 = some r) ∧ Aside0 (kq ≤ k) ∧ Aside0 (Kd.R Kd.string 9 w' w.heap.size (fun _ => True) v3 x3_1) ∧ Aside0 (Below w.heap.size w w'))
 case atStart => exact ⟨(([] : List ByteArray)), (0), (by first | rfl | (simp; done) | (simp [*]; done)), H', ⟨Nat.le_refl _⟩, ⟨by first | exact Kd.R_nil _ _ _ _ _ | exact Kd.N_nil _ _ _ _ _ | exact Kd.V_nil _ _ _ _ _ | exact Kd.Q_nil _ _ _ _ _ | exact Kd.S_nil _ _ _ _ _⟩, ⟨by apply_rules [HB.out, below_alloc, pw_below_drewN, below_drew1]⟩⟩
 case round =>
  clear H'
  obtain ⟨x3_1, x8_1, rfl, HA, HK1, HO_3, HB⟩ := hrel
  cases gk with
  | zero => exact absurd HA.out (by simp [schismalaw11_text.l0])
  | succ k1 =>
   have H := HA.out
   clear HA
   simp only [schismalaw11_text.l0] at H
   by_cases c2 : x8_1 < (l0.length : Int)
   ·rw [if_pos c2] at H
    have c2b0 : decide (x8_1 < (l0.length : Int)) = true := decide_eq_true c2
    clear c2
    by_cases c3 : 0 ≤ x8_1
    case neg => rw [if_neg c3] at H; exact absurd H (by simp)
    rw [if_pos c3] at H
    have c3b0 : decide (0 ≤ x8_1) = true := decide_eq_true c3
    clear c3
    by_cases c4 : x8_1 < (l0.length : Int)
    case neg => rw [if_neg c4] at H; exact absurd H (by simp)
    rw [if_pos c4] at H
    have c4b0 : decide (x8_1 < (l0.length : Int)) = true := decide_eq_true c4
    clear c4
    replace H := Option.bind_eq_some_iff.mp H
    obtain ⟨t1221, A50, H⟩ := H
    try dsimp only at H
    have A5 := Aside0.mk A50
    clear A50
    by_cases c6 : x3_1.length < 8796093022208
    case neg => rw [if_neg c6] at H; exact absurd H (by simp)
    rw [if_pos c6] at H
    have LMc6 := Aside0.mk c6
    clear c6
    obtain ⟨y1222, hy1222⟩ : ∃ y_ : List ByteArray, y_ = (x3_1 ++ [t1221]) := ⟨_, rfl⟩
    replace H : (schismalaw11_text.l0 k1 y1222 l0 (l0.length : Int) (wrap64 (x8_1 + 1))) = some r := by first | (rw [hy1222]; with_reducible exact H) | (have H2_ := (Option.bind_some _ _).symm.trans H; rw [hy1222]; with_reducible exact H2_) | (have H2_ := (Option.bind_some _ _).symm.trans H; with_reducible exact H2_) | with_reducible exact H | (rw [hy1222]; exact H) | exact H
    have Ny1222 := Aside0.mk hy1222
    clear hy1222
    have H' := Aside0.mk H
    clear H
    have p1220 : 0 ≤ (x8_1 : Int) := of_decide_eq_true (by assumption)
    have q1220 : x8_1 < (l0.length : Int) := of_decide_eq_true (by assumption)
    obtain ⟨ad1220, e1220, hx1220_0⟩ := Kd.at_int HR0.out x8_1 p1220 q1220
    cases e1220
    replace hx1220_0 := (HB.out.cell (World.block_lt_of_cell? w _ hx1220_0)).trans hx1220_0
    replace p1220 := eq_true p1220
    replace q1220 := eq_true q1220
    go_wp2_with (first | ((with_reducible refine gate_callee (f := 96) rfl ?_); refine goesK (some 14) Tryz.func96 [.int .i64 (rd l0 x8_1)] rfl rfl ?_; (with_reducible refine (strconv_Itoa.calls (rd l0 x8_1) t1221 _ ?side1 A5.out).mono ?_); (case side1 => refine TabW.below hT ?_; apply_rules [HB.out, below_alloc, pw_below_drewN, below_drew1]); rintro e w7 ⟨rfl, hb⟩; refine ⟨_, rfl, ?_⟩; replace HO_3 := Aside0.mk (Kd.R_below (by apply_rules [HO_3.out, Kd.R_alloc, Kd.R_drewN, Kd.R_drew]) hb); replace HB := Aside0.mk (below_step (by apply_rules [HB.out, below_alloc, pw_below_drewN, below_drew1]) hb); (try clear hb)) | ((with_reducible refine gate_builtin (b := .append) (xs := #[.tmp 12, .tmp 15]) rfl ?_); at_builtin; refine Kd.R_append Kd.string (w0 := w) w.heap.size rfl (.tmp 12) (.tmp 15) 126 9 (.string ⟨#[]⟩) 16 rfl Tryz.underlying126 info9 rfl (by decide) (by omega) u3 x3_1 t1221 [.string t1221] (fun _ => True) (fun _ => False) rfl rfl ?aP (fun _ hk => hk.elim) ?aF ?aO ?aB ?aS ?aL ?_; (case aP => exact rfl); (case aB => exact (by apply_rules [HB.out, below_alloc, pw_below_drewN, below_drew1])); (case aF => exact (fun _ _ => trivial)); (case aO => exact (by apply_rules [HO_3.out, Kd.R_alloc, Kd.R_drewN, Kd.R_drew])); (case aS => exact (below_size (by apply_rules [HB.out, below_alloc, pw_below_drewN, below_drew1]))); (case aL => have := LMc6.out; omega); intro v1223 w8 ho hb hg hat; rw [← Ny1222.out] at ho; replace HB := Aside0.mk (hb); have HO1224 := Aside0.mk (ho); clear HO_3; clear ho hb hg hat))
    go_roundg k1
    case measure => have := HK1.out; omega
    case rel => exact ⟨(y1222), (wrap64 (x8_1 + 1)), (by first | rfl | (simp; done) | (simp [*]; done)), H', ⟨by have := HK1.out; omega⟩, ⟨by apply_rules [HO1224.out, Kd.R_alloc, Kd.R_drewN, Kd.R_drew]⟩, ⟨by apply_rules [HB.out, below_alloc, pw_below_drewN, below_drew1]⟩⟩
   ·rw [if_neg c2] at H
    have c2b0 : decide (x8_1 < (l0.length : Int)) = false := decide_eq_false c2
    clear c2
    replace H := Option.bind_eq_some_iff.mp H
    obtain ⟨t1225, A90, H⟩ := H
    try dsimp only at H
    have A9 := Aside0.mk A90
    clear A90
    obtain rfl := Option.some.inj H
    obtain ⟨Ao10, co10, eo10⟩ := Kd.R_slice HO_3.out
    subst eo10
    go_wp2_with (first | ((with_reducible refine gate_callee (f := 97) rfl ?_); refine goesK (some 19) Tryz.func97 [.slice Ao10 x3_1.length co10, .string (⟨#[46]⟩ : ByteArray)] rfl rfl ?_; (with_reducible refine (strings_Join.calls _ _ x3_1 (⟨#[46]⟩ : ByteArray) t1225 _ ?side1 ?side2 A9.out).mono ?_); (case side1 => apply_rules [(Kd.R_reads' HO_3.out).2.2, Kd.C_alloc, Kd.C_drewN, Kd.C_drew]); (case side2 => exact (Kd.R_reads' HO_3.out).2.1); rintro e w11 ⟨rfl, hb⟩; refine ⟨_, rfl, ?_⟩; replace HO_3 := Aside0.mk (Kd.R_below (by apply_rules [HO_3.out, Kd.R_alloc, Kd.R_drewN, Kd.R_drew]) hb); replace HB := Aside0.mk (below_step (by apply_rules [HB.out, below_alloc, pw_below_drewN, below_drew1]) hb); (try clear hb)))
    go_ret
    exact ⟨by first | rfl | simp [*], by apply_rules [HB.out, below_alloc, pw_below_drewN, below_drew1]⟩
end Go.Proofs.YtccebdpjdpjgnaaGreatDoor.P
end
