/-
parts of the walks and of the plain laws: ExtBits PdecimalPower
-/
import Derived.Test.YtccebdpjdpjgnaaGreatDoorMP17
set_option linter.unusedVariables false
set_option linter.unusedSimpArgs false
section
namespace Go.Proofs.YtccebdpjdpjgnaaGreatDoor.P
open Go.RowKit Go.Proofs.YtccebdpjdpjgnaaGreatDoorW.PrintWords Go.Proofs.YtccebdpjdpjgnaaGreatDoorW.PrintLast Go.Proofs.YtccebdpjdpjgnaaGreatDoorW.PrintMore
def decimal_Bits.f (a0 : ByteArray) : Option Int :=
 (decimal_Small.f a0).bind fun b => if b.2 = true then bits_Len64.f b.1 else none
set_option maxHeartbeats 1000000 in
theorem decimal_Bits.calls (a0 : ByteArray) (r : Int) (w : World) (hT : TabW w) (h : decimal_Bits.f a0 = some r) :
  Calls Tryz.prog 107 #[.string a0] w fun e w' => e = .returned (.int .i64 r) ∧ Below w.heap.size w w' := by
 unfold decimal_Bits.f at h
 obtain ⟨⟨t1, t2⟩, h1, h⟩ := Option.bind_eq_some_iff.mp h
 simp only at h
 split at h
 ·rename_i h2
  subst h2
  go_enter Tryz.func107, Tryz.ntmps107
  go_wp2_with fail
  refine (decimal_Small.calls a0 t1 true _ hT h1).mono ?_
  rintro e w' ⟨rfl, hb⟩
  go_wp2_with fail
  refine (bits_Len64.calls t1 r _ h).mono ?_
  rintro e w2 ⟨rfl, hb2⟩
  go_wp2
  go_ret
  exact ⟨rfl, below_then hb hb.size hb2⟩
 ·cases h
end Go.Proofs.YtccebdpjdpjgnaaGreatDoor.P
end
section
namespace Go.Proofs.YtccebdpjdpjgnaaGreatDoor.P
open Go.RowKit Go.Proofs.YtccebdpjdpjgnaaGreatDoorW.PrintWords Go.Proofs.YtccebdpjdpjgnaaGreatDoorW.PrintLast Go.Proofs.YtccebdpjdpjgnaaGreatDoorW.PrintMore
attribute [local go_sem] max2_int min2_int max_two min_two max_three min_three max_four min_four
mutual
def decimal_Power.j0 : Nat → ByteArray → Int → Bool → Option (ByteArray × Int)
 | 0, _, _, _ => none
 | k + 1, x0, x1, x13 => if x13 = true then (some ((⟨#[49]⟩ : ByteArray), 0)) else (if x0.toList = ([48] : List UInt8) then (some ((⟨#[48]⟩ : ByteArray), 0)) else ((decimal_Bits.f x0).bind fun t417 => (if (wrap64 (t417 - 1)) = 0 then (none) else (if x1 > (wrap64 (Int.tdiv (66439 : Int) (wrap64 (t417 - 1)))) then (some ((⟨#[]⟩ : ByteArray), 4)) else ((decimal_cut.f k x0).bind fun t421 => (decimal_Power.l0 k x1 (([1] : List Int)) t421))))))
def decimal_Power.l0 : Nat → Int → List Int → List Int → Option (ByteArray × Int)
 | 0, _, _, _ => none
 | k + 1, x1, x7, x8 => if x1 > 0 then (if (Go.bits .and .i64 x1 1) = 1 then ((decimal_pieces_times.f k x7 x8).bind fun t425 => (if x1 > 1 then ((decimal_pieces_times.f k x8 x8).bind fun t428 => (decimal_Power.l0 k (x1 / 2) t425 t428)) else (decimal_Power.l0 k (x1 / 2) t425 x8))) else (if x1 > 1 then ((decimal_pieces_times.f k x8 x8).bind fun t431 => (decimal_Power.l0 k (x1 / 2) x7 t431)) else (decimal_Power.l0 k (x1 / 2) x7 x8))) else ((decimal_pieces_text.f k x7).bind fun t424 => (if (t424.size : Int) > 20000 then (some ((⟨#[]⟩ : ByteArray), 4)) else (some (t424, 0))))
end
def decimal_Power.f (k : Nat) (a0 : ByteArray) (a1 : Int) : Option (ByteArray × Int) := if a1 < 0 then (some ((⟨#[]⟩ : ByteArray), 3)) else (if a1 = 0 then (decimal_Power.j0 k a0 a1 true) else (decimal_Power.j0 k a0 a1 (a0.toList == ([49] : List UInt8))))
set_option maxHeartbeats 8000000 in
set_option maxRecDepth 100000 in
theorem decimal_Power.calls (k : Nat) (a0 : ByteArray) (a1 : Int) (r1 : ByteArray) (r2 : Int) (w : World) (hT : TabW w) (h : decimal_Power.f k a0 a1 = some (r1, r2)) :
  Calls Tryz.prog 41 #[.string a0, .int .i64 a1] w fun e w' => e = .returned (.tuple #[.string r1, .int .i64 r2]) ∧ Below w.heap.size w w' := by
 have HB := Aside0.mk (Below.refl w.heap.size w)
 have H : (if a1 < 0 then (some ((⟨#[]⟩ : ByteArray), 3)) else (if a1 = 0 then (decimal_Power.j0 k a0 a1 true) else (decimal_Power.j0 k a0 a1 (a0.toList == ([49] : List UInt8))))) = some (r1, r2) := h
 clear h
 by_cases c3 : a1 < 0
 ·rw [if_pos c3] at H
  have c3b0 : decide (a1 < 0) = true := decide_eq_true c3
  clear c3
  simp only [Option.some.injEq, Prod.mk.injEq] at H
  obtain ⟨rfl, rfl⟩ := H
  go_enter Tryz.func41, Tryz.ntmps41
  go_wp2
  go_ret2
  exact ⟨by first | rfl | simp [*], by apply_rules [HB.out, below_alloc, pw_below_drewN, below_drew1]⟩
 ·rw [if_neg c3] at H
  have c3b0 : decide (a1 < 0) = false := decide_eq_false c3
  clear c3
  have HC4 := Aside0.mk H
  clear H
  go_enter Tryz.func41, Tryz.ntmps41
  go_upto_region 3 with (fail)
  go_cut [13] (fun v13 wc => ∃ (kq : Nat) (x13_3 : Bool), v13 = .bool x13_3 ∧ Aside0 (decimal_Power.j0 kq a0 a1 x13_3 = some (r1, r2)) ∧ Aside0 (kq ≤ k) ∧ Aside0 (Below w.heap.size w wc))
  case first =>
   have H := HC4.out
   clear HC4
   by_cases c5 : a1 = 0
   ·rw [if_pos c5] at H
    have c5b0 : (a1 == 0) = true := beq_iff_eq.mpr c5
    have c5b1 : (a1 != 0) = false := bne_eq_false_iff_eq.mpr c5
    clear c5
    (first | rw [c5b0] | (simp only [i64_w, i32_w]; rw [c5b0]) | skip)
    have H' := Aside0.mk H
    clear H
    go_wp2
    go_meet
    case rel => exact ⟨_, (true), (by first | rfl | (simp; done) | (simp [*]; done)), H', ⟨by first | omega | exact Nat.le_refl _⟩, ⟨by apply_rules [HB.out, below_alloc, pw_below_drewN, below_drew1]⟩⟩
   ·rw [if_neg c5] at H
    have c5b0 : (a1 == 0) = false := beq_eq_false_iff_ne.mpr c5
    have c5b1 : (a1 != 0) = true := bne_iff_ne.mpr c5
    (first | rw [c5b0] | (simp only [i64_w, i32_w]; rw [c5b0]) | skip)
    have H' := Aside0.mk H
    clear H
    go_wp2
    go_meet
    case rel => exact ⟨_, ((a0.toList == ([49] : List UInt8))), (by first | rfl | (simp; done) | (simp [*]; done)), H', ⟨by first | omega | exact Nat.le_refl _⟩, ⟨by apply_rules [HB.out, below_alloc, pw_below_drewN, below_drew1]⟩⟩
  case rest =>
   clear HC4
   obtain ⟨kq, x13_3, rfl, HA, HJ3, HB⟩ := hcut
   cases kq with
   | zero => exact absurd HA.out (by simp [decimal_Power.j0])
   | succ kj3 =>
    have H := HA.out
    clear HA
    simp only [decimal_Power.j0] at H
    by_cases c6 : x13_3 = true
    ·subst c6
     have H1 : (some ((⟨#[49]⟩ : ByteArray), 0)) = some (r1, r2) := by rw [if_pos rfl] at H; exact H
     clear H
     have H := H1
     clear H1
     simp only [Option.some.injEq, Prod.mk.injEq] at H
     obtain ⟨rfl, rfl⟩ := H
     go_wp2
     go_ret2
     exact ⟨by first | rfl | simp [*], by apply_rules [HB.out, below_alloc, pw_below_drewN, below_drew1]⟩
    ·replace c6 := Bool.eq_false_iff.mpr c6
     subst c6
     have H1 : (if a0.toList = ([48] : List UInt8) then (some ((⟨#[48]⟩ : ByteArray), 0)) else ((decimal_Bits.f a0).bind fun t417 => (if (wrap64 (t417 - 1)) = 0 then (none) else (if a1 > (wrap64 (Int.tdiv (66439 : Int) (wrap64 (t417 - 1)))) then (some ((⟨#[]⟩ : ByteArray), 4)) else ((decimal_cut.f kj3 a0).bind fun t421 => (decimal_Power.l0 kj3 a1 (([1] : List Int)) t421)))))) = some (r1, r2) := by rw [if_neg (show ¬ (false = true) by decide)] at H; exact H
     clear H
     have H := H1
     clear H1
     by_cases c7 : a0.toList = ([48] : List UInt8)
     ·rw [if_pos c7] at H
      have c7b0 : (a0.toList == ([48] : List UInt8)) = true := beq_iff_eq.mpr c7
      have c7b1 : (a0.toList != ([48] : List UInt8)) = false := bne_eq_false_iff_eq.mpr c7
      clear c7
      simp only [Option.some.injEq, Prod.mk.injEq] at H
      obtain ⟨rfl, rfl⟩ := H
      go_wp2
      go_ret2
      exact ⟨by first | rfl | simp [*], by apply_rules [HB.out, below_alloc, pw_below_drewN, below_drew1]⟩
     ·rw [if_neg c7] at H
      have c7b0 : (a0.toList == ([48] : List UInt8)) = false := beq_eq_false_iff_ne.mpr c7
      have c7b1 : (a0.toList != ([48] : List UInt8)) = true := bne_iff_ne.mpr c7
      replace H := Option.bind_eq_some_iff.mp H
      obtain ⟨t417, A80, H⟩ := H
      try dsimp only at H
      have A8 := Aside0.mk A80
      clear A80
      by_cases c9 : (wrap64 (t417 - 1)) = 0
      case pos => rw [if_pos c9] at H; exact absurd H (by simp)
      rw [if_neg c9] at H
      have c9b0 : ((wrap64 (t417 - 1)) == 0) = false := beq_eq_false_iff_ne.mpr c9
      have c9b1 : ((wrap64 (t417 - 1)) != 0) = true := bne_iff_ne.mpr c9
      by_cases c10 : a1 > (wrap64 (Int.tdiv (66439 : Int) (wrap64 (t417 - 1))))
      ·rw [if_pos c10] at H
       have c10b0 : decide ((wrap64 (Int.tdiv (66439 : Int) (wrap64 (t417 - 1)))) < a1) = true := decide_eq_true c10
       clear c10
       simp only [Option.some.injEq, Prod.mk.injEq] at H
       obtain ⟨rfl, rfl⟩ := H
       go_wp2_with (first | ((with_reducible refine gate_callee (f := 107) rfl ?_); refine goesK (some 24) Tryz.func107 [.string a0] rfl rfl ?_; (with_reducible refine (decimal_Bits.calls a0 t417 _ ?side1 A8.out).mono ?_); (case side1 => refine TabW.below hT ?_; apply_rules [HB.out, below_alloc, pw_below_drewN, below_drew1]); rintro e w11 ⟨rfl, hb⟩; refine ⟨_, rfl, ?_⟩; replace HB := Aside0.mk (below_step (by apply_rules [HB.out, below_alloc, pw_below_drewN, below_drew1]) hb); (try clear hb)))
       go_ret2
       exact ⟨by first | rfl | simp [*], by apply_rules [HB.out, below_alloc, pw_below_drewN, below_drew1]⟩
      ·rw [if_neg c10] at H
       have c10b0 : decide ((wrap64 (Int.tdiv (66439 : Int) (wrap64 (t417 - 1)))) < a1) = false := decide_eq_false c10
       clear c10
       obtain ⟨y418, hy418⟩ : ∃ y_ : List Int, y_ = (([1] : List Int)) := ⟨_, rfl⟩
       replace H : ((decimal_cut.f kj3 a0).bind fun t421 => (decimal_Power.l0 kj3 a1 y418 t421)) = some (r1, r2) := by first | (rw [hy418]; with_reducible exact H) | (have H2_ := (Option.bind_some _ _).symm.trans H; rw [hy418]; with_reducible exact H2_) | (have H2_ := (Option.bind_some _ _).symm.trans H; with_reducible exact H2_) | with_reducible exact H | (rw [hy418]; exact H) | exact H
       have Ny418 := Aside0.mk hy418
       clear hy418
       replace H := Option.bind_eq_some_iff.mp H
       obtain ⟨t421, A120, H⟩ := H
       try dsimp only at H
       have A12 := Aside0.mk A120
       clear A120
       have H' := Aside0.mk H
       clear H
       go_wp2_with (first | ((with_reducible refine gate_callee (f := 107) rfl ?_); refine goesK (some 24) Tryz.func107 [.string a0] rfl rfl ?_; (with_reducible refine (decimal_Bits.calls a0 t417 _ ?side1 A8.out).mono ?_); (case side1 => refine TabW.below hT ?_; apply_rules [HB.out, below_alloc, pw_below_drewN, below_drew1]); rintro e w13 ⟨rfl, hb⟩; refine ⟨_, rfl, ?_⟩; replace HB := Aside0.mk (below_step (by apply_rules [HB.out, below_alloc, pw_below_drewN, below_drew1]) hb); (try clear hb)) | ((with_reducible refine gate_dst (N := 30) rfl ?_); refine Kd.R_lit (Kd.int .u64) _ 139 ?hg (N := 30) ?hd (xs := ([1] : List Int)) (inner := [.int .u64 1]) (ok := fun _ => True) (okp := fun _ => True) ?hr ?hp (fun _ hk => hk) trivial (Below.refl _ _) (Nat.le_refl _) (by simp) ?_; (case hd => rfl); (case hg => rfl); (case hr => go_simp; try rfl); (case hp => exact (Reps.one (show Kd.M (Kd.int .u64) _ _ _ 1 [.int .u64 1] from rfl) (Reps.none _ _))); intro v419 w14 ho15 hb hg_ hnew_; clear hg_ hnew_; (first | rw [← Ny418.out] at ho15 | (simp only [Int.reduceToNat] at ho15; rw [← Ny418.out] at ho15)); have HO420 := Aside0.mk (Kd.R_lower ho15 (below_size (by apply_rules [HB.out, below_alloc, pw_below_drewN, below_drew1]))); replace HB := Aside0.mk (below_step (by apply_rules [HB.out, below_alloc, pw_below_drewN, below_drew1]) hb); clear hb ho15) | ((with_reducible refine gate_callee (f := 108) rfl ?_); refine goesK (some 32) Tryz.func108 [.string a0] rfl rfl ?_; (with_reducible refine (decimal_cut.calls kj3 a0 t421 _ A12.out).mono ?_); rintro e w16 ⟨v422, rfl, ho0, hb⟩; refine ⟨_, rfl, ?_⟩; have n0_ := Aside0.mk (Kd.R_elder' (by apply_rules [HO420.out, Kd.R_alloc, Kd.R_drewN, Kd.R_drew]) (Kd.R_base ho0) hb); have n1_ := Aside0.mk (Kd.R_lower (Kd.R_new' ho0 (Kd.R_lt (by apply_rules [HO420.out, Kd.R_alloc, Kd.R_drewN, Kd.R_drew]))) (below_size (by apply_rules [HB.out, below_alloc, pw_below_drewN, below_drew1]))); have n2_ := Aside0.mk (below_step (by apply_rules [HB.out, below_alloc, pw_below_drewN, below_drew1]) hb); clear HO420; clear HB; have HO420 := n0_; have HO423 := n1_; have HB := n2_; clear n0_ n1_ n2_; (try clear hb); (try clear ho0)))
       go_loopg [1, 7, 8] kj3 (fun kq v1 v7 v8 w' => ∃ (x1_2 : Int) (x7_2 : List Int) (x8_2 : List Int), v1 = .int .i64 x1_2 ∧ Aside0 (decimal_Power.l0 kq x1_2 x7_2 x8_2 = some (r1, r2)) ∧ Aside0 (kq ≤ kj3) ∧ Aside0 (Kd.R (Kd.int .u64) 139 w' w.heap.size (fun k_ => some k_ ≠ (v8 : Value).ownBlock) v7 x7_2) ∧ Aside0 (Kd.R (Kd.int .u64) 139 w' w.heap.size (fun k_ => some k_ ≠ (v7 : Value).ownBlock) v8 x8_2) ∧ Aside0 (Below w.heap.size w w'))
       case atStart => exact ⟨(a1), (y418), (t421), (by first | rfl | (simp; done) | (simp [*]; done)), H', ⟨Nat.le_refl _⟩, ⟨by (with_reducible repeat (first | apply Kd.R_alloc | apply Kd.R_drewN | apply Kd.R_drew)); exact Kd.R_mono HO420.out (fun _ hk => hk.2)⟩, ⟨by (with_reducible repeat (first | apply Kd.R_alloc | apply Kd.R_drewN | apply Kd.R_drew)); exact Kd.R_mono HO423.out (fun _ hk => hk.2)⟩, ⟨by apply_rules [HB.out, below_alloc, pw_below_drewN, below_drew1]⟩⟩
       case round =>
        clear H'
        obtain ⟨x1_2, x7_2, x8_2, rfl, HA, HK2, HO_7, HO_8, HB⟩ := hrel
        cases gk with
        | zero => exact absurd HA.out (by simp [decimal_Power.l0])
        | succ k2 =>
         have H := HA.out
         clear HA
         simp only [decimal_Power.l0] at H
         by_cases c17 : x1_2 > 0
         ·rw [if_pos c17] at H
          have c17b0 : decide (0 < x1_2) = true := decide_eq_true c17
          clear c17
          by_cases c18 : (Go.bits .and .i64 x1_2 1) = 1
          ·rw [if_pos c18] at H
           have c18b0 : ((Go.bits .and .i64 x1_2 1) == 1) = true := beq_iff_eq.mpr c18
           have c18b1 : ((Go.bits .and .i64 x1_2 1) != 1) = false := bne_eq_false_iff_eq.mpr c18
           clear c18
           replace H := Option.bind_eq_some_iff.mp H
           obtain ⟨t425, A190, H⟩ := H
           try dsimp only at H
           have A19 := Aside0.mk A190
           clear A190
           by_cases c20 : x1_2 > 1
           ·rw [if_pos c20] at H
            have c20b0 : decide (1 < x1_2) = true := decide_eq_true c20
            clear c20
            replace H := Option.bind_eq_some_iff.mp H
            obtain ⟨t428, A210, H⟩ := H
            try dsimp only at H
            have A21 := Aside0.mk A210
            clear A210
            have H' := Aside0.mk H
            clear H
            obtain ⟨Ao22, co22, eo22⟩ := Kd.R_slice HO_7.out
            subst eo22
            obtain ⟨Ao23, co23, eo23⟩ := Kd.R_slice HO_8.out
            subst eo23
            go_wp2_with (first | ((with_reducible refine gate_callee (f := 109) rfl ?_); refine goesK (some 42) Tryz.func109 [.slice Ao22 x7_2.length co22, .slice Ao23 x8_2.length co23] rfl rfl ?_; (with_reducible refine (decimal_pieces_times.calls k2 _ _ x7_2 _ _ x8_2 t425 _ ?side1 ?side2 ?side3 ?side4 A19.out).mono ?_); (case side1 => apply_rules [(Kd.R_reads' HO_7.out).2.2, Kd.C_alloc, Kd.C_drewN, Kd.C_drew]); (case side2 => exact (Kd.R_reads' HO_7.out).2.1); (case side3 => apply_rules [(Kd.R_reads' HO_8.out).2.2, Kd.C_alloc, Kd.C_drewN, Kd.C_drew]); (case side4 => exact (Kd.R_reads' HO_8.out).2.1); rintro e w24 ⟨v426, rfl, ho0, hb⟩; refine ⟨_, rfl, ?_⟩; have n0_ := Aside0.mk (Kd.R_elder' (by apply_rules [HO_7.out, Kd.R_alloc, Kd.R_drewN, Kd.R_drew]) (Kd.R_base ho0) hb); have n1_ := Aside0.mk (Kd.R_elder' (by apply_rules [HO_8.out, Kd.R_alloc, Kd.R_drewN, Kd.R_drew]) (Kd.R_base ho0) hb); have n2_ := Aside0.mk (Kd.R_lower (Kd.R_new' (Kd.R_new' ho0 (Kd.R_lt (by apply_rules [HO_7.out, Kd.R_alloc, Kd.R_drewN, Kd.R_drew]))) (Kd.R_lt (by apply_rules [HO_8.out, Kd.R_alloc, Kd.R_drewN, Kd.R_drew]))) (below_size (by apply_rules [HB.out, below_alloc, pw_below_drewN, below_drew1]))); have n3_ := Aside0.mk (below_step (by apply_rules [HB.out, below_alloc, pw_below_drewN, below_drew1]) hb); clear HO_7; clear HO_8; clear HB; have HO_7 := n0_; have HO_8 := n1_; have HO427 := n2_; have HB := n3_; clear n0_ n1_ n2_ n3_; (try clear hb); (try clear ho0)) | ((with_reducible refine gate_callee (f := 109) rfl ?_); refine goesK (some 47) Tryz.func109 [.slice Ao23 x8_2.length co23, .slice Ao23 x8_2.length co23] rfl rfl ?_; (with_reducible refine (decimal_pieces_times.calls k2 _ _ x8_2 _ _ x8_2 t428 _ ?side1 ?side2 ?side3 ?side4 A21.out).mono ?_); (case side1 => apply_rules [(Kd.R_reads' HO_8.out).2.2, Kd.C_alloc, Kd.C_drewN, Kd.C_drew]); (case side2 => exact (Kd.R_reads' HO_8.out).2.1); (case side3 => apply_rules [(Kd.R_reads' HO_8.out).2.2, Kd.C_alloc, Kd.C_drewN, Kd.C_drew]); (case side4 => exact (Kd.R_reads' HO_8.out).2.1); rintro e w25 ⟨v429, rfl, ho0, hb⟩; refine ⟨_, rfl, ?_⟩; have n0_ := Aside0.mk (Kd.R_elder' (by apply_rules [HO_7.out, Kd.R_alloc, Kd.R_drewN, Kd.R_drew]) (Kd.R_base ho0) hb); have n1_ := Aside0.mk (Kd.R_elder' (by apply_rules [HO_8.out, Kd.R_alloc, Kd.R_drewN, Kd.R_drew]) (Kd.R_base ho0) hb); have n2_ := Aside0.mk (Kd.R_elder' (by apply_rules [HO427.out, Kd.R_alloc, Kd.R_drewN, Kd.R_drew]) (Kd.R_base ho0) hb); have n3_ := Aside0.mk (Kd.R_lower (Kd.R_new' (Kd.R_new' (Kd.R_new' ho0 (Kd.R_lt (by apply_rules [HO_7.out, Kd.R_alloc, Kd.R_drewN, Kd.R_drew]))) (Kd.R_lt (by apply_rules [HO_8.out, Kd.R_alloc, Kd.R_drewN, Kd.R_drew]))) (Kd.R_lt (by apply_rules [HO427.out, Kd.R_alloc, Kd.R_drewN, Kd.R_drew]))) (below_size (by apply_rules [HB.out, below_alloc, pw_below_drewN, below_drew1]))); have n4_ := Aside0.mk (below_step (by apply_rules [HB.out, below_alloc, pw_below_drewN, below_drew1]) hb); clear HO_7; clear HO_8; clear HO427; clear HB; have HO_7 := n0_; have HO_8 := n1_; have HO427 := n2_; have HO430 := n3_; have HB := n4_; clear n0_ n1_ n2_ n3_ n4_; (try clear hb); (try clear ho0)))
            go_roundg k2
            case measure => have := HJ3.out; have := HK2.out; omega
            case rel => exact ⟨(x1_2 / 2), (t425), (t428), (by first | rfl | (simp; done) | (simp [*]; done)), H', ⟨by have := HJ3.out; have := HK2.out; omega⟩, ⟨by (with_reducible repeat (first | apply Kd.R_alloc | apply Kd.R_drewN | apply Kd.R_drew)); exact Kd.R_mono HO427.out (fun _ hk => hk.2)⟩, ⟨by (with_reducible repeat (first | apply Kd.R_alloc | apply Kd.R_drewN | apply Kd.R_drew)); exact Kd.R_mono HO430.out (fun _ hk => hk.2)⟩, ⟨by apply_rules [HB.out, below_alloc, pw_below_drewN, below_drew1]⟩⟩
           ·rw [if_neg c20] at H
            have c20b0 : decide (1 < x1_2) = false := decide_eq_false c20
            clear c20
            have H' := Aside0.mk H
            clear H
            obtain ⟨Ao26, co26, eo26⟩ := Kd.R_slice HO_7.out
            subst eo26
            obtain ⟨Ao27, co27, eo27⟩ := Kd.R_slice HO_8.out
            subst eo27
            go_wp2_with (first | ((with_reducible refine gate_callee (f := 109) rfl ?_); refine goesK (some 42) Tryz.func109 [.slice Ao26 x7_2.length co26, .slice Ao27 x8_2.length co27] rfl rfl ?_; (with_reducible refine (decimal_pieces_times.calls k2 _ _ x7_2 _ _ x8_2 t425 _ ?side1 ?side2 ?side3 ?side4 A19.out).mono ?_); (case side1 => apply_rules [(Kd.R_reads' HO_7.out).2.2, Kd.C_alloc, Kd.C_drewN, Kd.C_drew]); (case side2 => exact (Kd.R_reads' HO_7.out).2.1); (case side3 => apply_rules [(Kd.R_reads' HO_8.out).2.2, Kd.C_alloc, Kd.C_drewN, Kd.C_drew]); (case side4 => exact (Kd.R_reads' HO_8.out).2.1); rintro e w28 ⟨v426, rfl, ho0, hb⟩; refine ⟨_, rfl, ?_⟩; have n0_ := Aside0.mk (Kd.R_elder' (by apply_rules [HO_7.out, Kd.R_alloc, Kd.R_drewN, Kd.R_drew]) (Kd.R_base ho0) hb); have n1_ := Aside0.mk (Kd.R_elder' (by apply_rules [HO_8.out, Kd.R_alloc, Kd.R_drewN, Kd.R_drew]) (Kd.R_base ho0) hb); have n2_ := Aside0.mk (Kd.R_lower (Kd.R_new' (Kd.R_new' ho0 (Kd.R_lt (by apply_rules [HO_7.out, Kd.R_alloc, Kd.R_drewN, Kd.R_drew]))) (Kd.R_lt (by apply_rules [HO_8.out, Kd.R_alloc, Kd.R_drewN, Kd.R_drew]))) (below_size (by apply_rules [HB.out, below_alloc, pw_below_drewN, below_drew1]))); have n3_ := Aside0.mk (below_step (by apply_rules [HB.out, below_alloc, pw_below_drewN, below_drew1]) hb); clear HO_7; clear HO_8; clear HB; have HO_7 := n0_; have HO_8 := n1_; have HO427 := n2_; have HB := n3_; clear n0_ n1_ n2_ n3_; (try clear hb); (try clear ho0)))
            go_roundg k2
            case measure => have := HJ3.out; have := HK2.out; omega
            case rel => exact ⟨(x1_2 / 2), (t425), (x8_2), (by first | rfl | (simp; done) | (simp [*]; done)), H', ⟨by have := HJ3.out; have := HK2.out; omega⟩, ⟨by (with_reducible repeat (first | apply Kd.R_alloc | apply Kd.R_drewN | apply Kd.R_drew)); exact Kd.R_mono HO427.out (fun _ hk => hk.2)⟩, ⟨by (with_reducible repeat (first | apply Kd.R_alloc | apply Kd.R_drewN | apply Kd.R_drew)); exact Kd.R_mono HO_8.out (fun _ hk => hk.2)⟩, ⟨by apply_rules [HB.out, below_alloc, pw_below_drewN, below_drew1]⟩⟩
          ·rw [if_neg c18] at H
           have c18b0 : ((Go.bits .and .i64 x1_2 1) == 1) = false := beq_eq_false_iff_ne.mpr c18
           have c18b1 : ((Go.bits .and .i64 x1_2 1) != 1) = true := bne_iff_ne.mpr c18
           by_cases c29 : x1_2 > 1
           ·rw [if_pos c29] at H
            have c29b0 : decide (1 < x1_2) = true := decide_eq_true c29
            clear c29
            replace H := Option.bind_eq_some_iff.mp H
            obtain ⟨t431, A300, H⟩ := H
            try dsimp only at H
            have A30 := Aside0.mk A300
            clear A300
            have H' := Aside0.mk H
            clear H
            obtain ⟨Ao31, co31, eo31⟩ := Kd.R_slice HO_8.out
            subst eo31
            go_wp2_with (first | ((with_reducible refine gate_callee (f := 109) rfl ?_); refine goesK (some 47) Tryz.func109 [.slice Ao31 x8_2.length co31, .slice Ao31 x8_2.length co31] rfl rfl ?_; (with_reducible refine (decimal_pieces_times.calls k2 _ _ x8_2 _ _ x8_2 t431 _ ?side1 ?side2 ?side3 ?side4 A30.out).mono ?_); (case side1 => apply_rules [(Kd.R_reads' HO_8.out).2.2, Kd.C_alloc, Kd.C_drewN, Kd.C_drew]); (case side2 => exact (Kd.R_reads' HO_8.out).2.1); (case side3 => apply_rules [(Kd.R_reads' HO_8.out).2.2, Kd.C_alloc, Kd.C_drewN, Kd.C_drew]); (case side4 => exact (Kd.R_reads' HO_8.out).2.1); rintro e w32 ⟨v432, rfl, ho0, hb⟩; refine ⟨_, rfl, ?_⟩; have n0_ := Aside0.mk (Kd.R_elder' (by apply_rules [HO_7.out, Kd.R_alloc, Kd.R_drewN, Kd.R_drew]) (Kd.R_base ho0) hb); have n1_ := Aside0.mk (Kd.R_elder' (by apply_rules [HO_8.out, Kd.R_alloc, Kd.R_drewN, Kd.R_drew]) (Kd.R_base ho0) hb); have n2_ := Aside0.mk (Kd.R_lower (Kd.R_new' (Kd.R_new' ho0 (Kd.R_lt (by apply_rules [HO_7.out, Kd.R_alloc, Kd.R_drewN, Kd.R_drew]))) (Kd.R_lt (by apply_rules [HO_8.out, Kd.R_alloc, Kd.R_drewN, Kd.R_drew]))) (below_size (by apply_rules [HB.out, below_alloc, pw_below_drewN, below_drew1]))); have n3_ := Aside0.mk (below_step (by apply_rules [HB.out, below_alloc, pw_below_drewN, below_drew1]) hb); clear HO_7; clear HO_8; clear HB; have HO_7 := n0_; have HO_8 := n1_; have HO433 := n2_; have HB := n3_; clear n0_ n1_ n2_ n3_; (try clear hb); (try clear ho0)))
            go_roundg k2
            case measure => have := HJ3.out; have := HK2.out; omega
            case rel => exact ⟨(x1_2 / 2), (x7_2), (t431), (by first | rfl | (simp; done) | (simp [*]; done)), H', ⟨by have := HJ3.out; have := HK2.out; omega⟩, ⟨by (with_reducible repeat (first | apply Kd.R_alloc | apply Kd.R_drewN | apply Kd.R_drew)); exact Kd.R_mono HO_7.out (fun _ hk => hk.2)⟩, ⟨by (with_reducible repeat (first | apply Kd.R_alloc | apply Kd.R_drewN | apply Kd.R_drew)); exact Kd.R_mono HO433.out (fun _ hk => hk.1.2)⟩, ⟨by apply_rules [HB.out, below_alloc, pw_below_drewN, below_drew1]⟩⟩
           ·rw [if_neg c29] at H
            have c29b0 : decide (1 < x1_2) = false := decide_eq_false c29
            clear c29
            have H' := Aside0.mk H
            clear H
            go_wp2
            go_roundg k2
            case measure => have := HJ3.out; have := HK2.out; omega
            case rel => exact ⟨(x1_2 / 2), (x7_2), (x8_2), (by first | rfl | (simp; done) | (simp [*]; done)), H', ⟨by have := HJ3.out; have := HK2.out; omega⟩, ⟨by apply_rules [HO_7.out, Kd.R_alloc, Kd.R_drewN, Kd.R_drew]⟩, ⟨by apply_rules [HO_8.out, Kd.R_alloc, Kd.R_drewN, Kd.R_drew]⟩, ⟨by apply_rules [HB.out, below_alloc, pw_below_drewN, below_drew1]⟩⟩
         ·rw [if_neg c17] at H
          have c17b0 : decide (0 < x1_2) = false := decide_eq_false c17
          clear c17
          replace H := Option.bind_eq_some_iff.mp H
          obtain ⟨t424, A330, H⟩ := H
          try dsimp only at H
          have A33 := Aside0.mk A330
          clear A330
          by_cases c34 : (t424.size : Int) > 20000
          ·rw [if_pos c34] at H
           have c34b0 : decide (20000 < (t424.size : Int)) = true := decide_eq_true c34
           have c34b1 : decide (20000 < t424.size) = true := decide_eq_true (by omega)
           clear c34
           simp only [Option.some.injEq, Prod.mk.injEq] at H
           obtain ⟨rfl, rfl⟩ := H
           obtain ⟨Ao35, co35, eo35⟩ := Kd.R_slice HO_7.out
           subst eo35
           go_wp2_with (first | ((with_reducible refine gate_callee (f := 110) rfl ?_); refine goesK (some 49) Tryz.func110 [.slice Ao35 x7_2.length co35] rfl rfl ?_; (with_reducible refine (decimal_pieces_text.calls k2 _ _ x7_2 t424 _ ?side1 ?side2 A33.out).mono ?_); (case side1 => apply_rules [(Kd.R_reads' HO_7.out).2.2, Kd.C_alloc, Kd.C_drewN, Kd.C_drew]); (case side2 => exact (Kd.R_reads' HO_7.out).2.1); rintro e w36 ⟨rfl, hb⟩; refine ⟨_, rfl, ?_⟩; replace HO_7 := Aside0.mk (Kd.R_below (by apply_rules [HO_7.out, Kd.R_alloc, Kd.R_drewN, Kd.R_drew]) hb); replace HO_8 := Aside0.mk (Kd.R_below (by apply_rules [HO_8.out, Kd.R_alloc, Kd.R_drewN, Kd.R_drew]) hb); replace HB := Aside0.mk (below_step (by apply_rules [HB.out, below_alloc, pw_below_drewN, below_drew1]) hb); (try clear hb)))
           go_ret2
           exact ⟨by first | rfl | simp [*], by apply_rules [HB.out, below_alloc, pw_below_drewN, below_drew1]⟩
          ·rw [if_neg c34] at H
           have c34b0 : decide (20000 < (t424.size : Int)) = false := decide_eq_false c34
           have c34b1 : decide (20000 < t424.size) = false := decide_eq_false (by omega)
           clear c34
           simp only [Option.some.injEq, Prod.mk.injEq] at H
           obtain ⟨rfl, rfl⟩ := H
           obtain ⟨Ao37, co37, eo37⟩ := Kd.R_slice HO_7.out
           subst eo37
           go_wp2_with (first | ((with_reducible refine gate_callee (f := 110) rfl ?_); refine goesK (some 49) Tryz.func110 [.slice Ao37 x7_2.length co37] rfl rfl ?_; (with_reducible refine (decimal_pieces_text.calls k2 _ _ x7_2 t424 _ ?side1 ?side2 A33.out).mono ?_); (case side1 => apply_rules [(Kd.R_reads' HO_7.out).2.2, Kd.C_alloc, Kd.C_drewN, Kd.C_drew]); (case side2 => exact (Kd.R_reads' HO_7.out).2.1); rintro e w38 ⟨rfl, hb⟩; refine ⟨_, rfl, ?_⟩; replace HO_7 := Aside0.mk (Kd.R_below (by apply_rules [HO_7.out, Kd.R_alloc, Kd.R_drewN, Kd.R_drew]) hb); replace HO_8 := Aside0.mk (Kd.R_below (by apply_rules [HO_8.out, Kd.R_alloc, Kd.R_drewN, Kd.R_drew]) hb); replace HB := Aside0.mk (below_step (by apply_rules [HB.out, below_alloc, pw_below_drewN, below_drew1]) hb); (try clear hb)))
           go_ret2
           exact ⟨by first | rfl | simp [*], by apply_rules [HB.out, below_alloc, pw_below_drewN, below_drew1]⟩
end Go.Proofs.YtccebdpjdpjgnaaGreatDoor.P
end
