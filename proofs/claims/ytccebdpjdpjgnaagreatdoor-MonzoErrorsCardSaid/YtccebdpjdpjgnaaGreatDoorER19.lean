/-
parts of the walks and of the plain laws: PdecimalAdd ExtDec PdecimalSub
-/
import Derived.WalkLawsBesides
import Derived.Test.YtccebdpjdpjgnaaGreatDoorER18
import Derived.Test.YtccebdpjdpjgnaaGreatDoorER13
set_option linter.unusedVariables false
set_option linter.unusedSimpArgs false
section
namespace Go.Proofs.YtccebdpjdpjgnaaGreatDoor.P
open Go.RowKit Go.Proofs.YtccebdpjdpjgnaaGreatDoorW.PrintWords Go.Proofs.YtccebdpjdpjgnaaGreatDoorW.PrintLast Go.Proofs.YtccebdpjdpjgnaaGreatDoorW.PrintMore
attribute [local go_sem] max2_int min2_int max_two min_two max_three min_three max_four min_four
def decimal_Add.f (k : Nat) (a0 : ByteArray) (a1 : ByteArray) : Option (ByteArray) := (decimal_both.f k a0 a1).bind fun bt305 => (if bt305.2.2 = true then ((decimal_Of.f (IntKind.u64.wrap (bt305.1 + bt305.2.1))).bind fun t308 => (some t308)) else ((decimal_cut.f k a0).bind fun t309 => ((decimal_cut.f k a1).bind fun t312 => (if (t309.length : Int) < (t312.length : Int) then (if t312.length < 17592186044416 then ((some (t312 ++ [0] : List Int)).bind fun y315 => (if 0 ≤ (wrap64 ((wrap64 ((y315.length : Int) - 1)) - (t309.length : Int))) then (if t309.length + (wrap64 ((wrap64 ((y315.length : Int) - 1)) - (t309.length : Int)) : Int).toNat < 17592186044416 then ((decimal_pieces_back.f k y315 (t309 ++ List.replicate (wrap64 ((wrap64 ((y315.length : Int) - 1)) - (t309.length : Int)) : Int).toNat 0) 0).bind fun t321 => ((decimal_pieces_trim.f k t321).bind fun t322 => ((decimal_pieces_text.f k t322).bind fun t325 => (some t325)))) else (none)) else (none))) else (none)) else (if t309.length < 17592186044416 then ((some (t309 ++ [0] : List Int)).bind fun y326 => (if 0 ≤ (wrap64 ((wrap64 ((y326.length : Int) - 1)) - (t312.length : Int))) then (if t312.length + (wrap64 ((wrap64 ((y326.length : Int) - 1)) - (t312.length : Int)) : Int).toNat < 17592186044416 then ((decimal_pieces_back.f k y326 (t312 ++ List.replicate (wrap64 ((wrap64 ((y326.length : Int) - 1)) - (t312.length : Int)) : Int).toNat 0) 0).bind fun t332 => ((decimal_pieces_trim.f k t332).bind fun t333 => ((decimal_pieces_text.f k t333).bind fun t336 => (some t336)))) else (none)) else (none))) else (none))))))
theorem decimal_Add.mono : ∀ a0 a1 k, LeO (decimal_Add.f k a0 a1) (decimal_Add.f (k + 1) a0 a1) := by
 intro a0 a1 k
 unfold decimal_Add.f
 repeat' first
   | (with_reducible exact decimal_both.mono _ _ _)
   | (with_reducible exact decimal_cut.mono _ _)
   | (with_reducible exact decimal_pieces_back.mono _ _ _ _)
   | (with_reducible exact decimal_pieces_text.mono _ _)
   | (with_reducible exact decimal_pieces_trim.mono _ _)
   | (with_reducible exact LeO.refl _)
   | (with_reducible exact LeO.none _)
   | (with_reducible refine LeO.ite ?_ ?_)
   | (with_reducible refine LeO.bind ?_ (fun _ => ?_))
set_option maxHeartbeats 8000000 in
set_option maxRecDepth 100000 in
theorem decimal_Add.calls (k : Nat) (a0 : ByteArray) (a1 : ByteArray) (r : ByteArray) (w : World) (hT : TabW w) (h : decimal_Add.f k a0 a1 = some r) :
  Calls Tryz.prog 121 #[.string a0, .string a1] w fun e w' => e = .returned (.string r) ∧ Below w.heap.size w w' := by
 have HB := Aside0.mk (Below.refl w.heap.size w)
 have H : ((decimal_both.f k a0 a1).bind fun bt305 => (if bt305.2.2 = true then ((decimal_Of.f (IntKind.u64.wrap (bt305.1 + bt305.2.1))).bind fun t308 => (some t308)) else ((decimal_cut.f k a0).bind fun t309 => ((decimal_cut.f k a1).bind fun t312 => (if (t309.length : Int) < (t312.length : Int) then (if t312.length < 17592186044416 then ((some (t312 ++ [0] : List Int)).bind fun y315 => (if 0 ≤ (wrap64 ((wrap64 ((y315.length : Int) - 1)) - (t309.length : Int))) then (if t309.length + (wrap64 ((wrap64 ((y315.length : Int) - 1)) - (t309.length : Int)) : Int).toNat < 17592186044416 then ((decimal_pieces_back.f k y315 (t309 ++ List.replicate (wrap64 ((wrap64 ((y315.length : Int) - 1)) - (t309.length : Int)) : Int).toNat 0) 0).bind fun t321 => ((decimal_pieces_trim.f k t321).bind fun t322 => ((decimal_pieces_text.f k t322).bind fun t325 => (some t325)))) else (none)) else (none))) else (none)) else (if t309.length < 17592186044416 then ((some (t309 ++ [0] : List Int)).bind fun y326 => (if 0 ≤ (wrap64 ((wrap64 ((y326.length : Int) - 1)) - (t312.length : Int))) then (if t312.length + (wrap64 ((wrap64 ((y326.length : Int) - 1)) - (t312.length : Int)) : Int).toNat < 17592186044416 then ((decimal_pieces_back.f k y326 (t312 ++ List.replicate (wrap64 ((wrap64 ((y326.length : Int) - 1)) - (t312.length : Int)) : Int).toNat 0) 0).bind fun t332 => ((decimal_pieces_trim.f k t332).bind fun t333 => ((decimal_pieces_text.f k t333).bind fun t336 => (some t336)))) else (none)) else (none))) else (none))))))) = some r := h
 clear h
 replace H := Option.bind_eq_some_iff.mp H
 obtain ⟨⟨t305, t306, t307⟩, A30, H⟩ := H
 try dsimp only at H
 have A3 := Aside0.mk A30
 clear A30
 by_cases c4 : t307 = true
 ·subst c4
  have H1 : ((decimal_Of.f (IntKind.u64.wrap (t305 + t306))).bind fun t308 => (some t308)) = some r := by rw [if_pos rfl] at H; exact H
  clear H
  have H := H1
  clear H1
  replace H := Option.bind_eq_some_iff.mp H
  obtain ⟨t308, A50, H⟩ := H
  try dsimp only at H
  have A5 := Aside0.mk A50
  clear A50
  obtain rfl := Option.some.inj H
  go_enter Tryz.func121, Tryz.ntmps121
  go_wp2_with (first | ((with_reducible refine gate_callee (f := 175) rfl ?_); refine goesK (some 13) Tryz.func175 [.string a0, .string a1] rfl rfl ?_; (with_reducible refine (decimal_both.calls k a0 a1 t305 t306 true _ ?side1 A3.out).mono ?_); (case side1 => refine TabW.below hT ?_; apply_rules [HB.out, below_alloc, pw_below_drewN, below_drew1]); rintro e w6 ⟨rfl, hb⟩; refine ⟨_, rfl, ?_⟩; replace HB := Aside0.mk (below_step (by apply_rules [HB.out, below_alloc, pw_below_drewN, below_drew1]) hb); (try clear hb)) | ((with_reducible refine gate_callee (f := 169) rfl ?_); refine goesK (some 21) Tryz.func169 [.int .u64 (IntKind.u64.wrap (t305 + t306))] rfl rfl ?_; (with_reducible refine (decimal_Of.calls (IntKind.u64.wrap (t305 + t306)) t308 _ ?side1 A5.out).mono ?_); (case side1 => refine TabW.below hT ?_; apply_rules [HB.out, below_alloc, pw_below_drewN, below_drew1]); rintro e w7 ⟨rfl, hb⟩; refine ⟨_, rfl, ?_⟩; replace HB := Aside0.mk (below_step (by apply_rules [HB.out, below_alloc, pw_below_drewN, below_drew1]) hb); (try clear hb)))
  go_ret
  exact ⟨by first | rfl | simp [*], by apply_rules [HB.out, below_alloc, pw_below_drewN, below_drew1]⟩
 ·replace c4 := Bool.eq_false_iff.mpr c4
  subst c4
  have H1 : ((decimal_cut.f k a0).bind fun t309 => ((decimal_cut.f k a1).bind fun t312 => (if (t309.length : Int) < (t312.length : Int) then (if t312.length < 17592186044416 then ((some (t312 ++ [0] : List Int)).bind fun y315 => (if 0 ≤ (wrap64 ((wrap64 ((y315.length : Int) - 1)) - (t309.length : Int))) then (if t309.length + (wrap64 ((wrap64 ((y315.length : Int) - 1)) - (t309.length : Int)) : Int).toNat < 17592186044416 then ((decimal_pieces_back.f k y315 (t309 ++ List.replicate (wrap64 ((wrap64 ((y315.length : Int) - 1)) - (t309.length : Int)) : Int).toNat 0) 0).bind fun t321 => ((decimal_pieces_trim.f k t321).bind fun t322 => ((decimal_pieces_text.f k t322).bind fun t325 => (some t325)))) else (none)) else (none))) else (none)) else (if t309.length < 17592186044416 then ((some (t309 ++ [0] : List Int)).bind fun y326 => (if 0 ≤ (wrap64 ((wrap64 ((y326.length : Int) - 1)) - (t312.length : Int))) then (if t312.length + (wrap64 ((wrap64 ((y326.length : Int) - 1)) - (t312.length : Int)) : Int).toNat < 17592186044416 then ((decimal_pieces_back.f k y326 (t312 ++ List.replicate (wrap64 ((wrap64 ((y326.length : Int) - 1)) - (t312.length : Int)) : Int).toNat 0) 0).bind fun t332 => ((decimal_pieces_trim.f k t332).bind fun t333 => ((decimal_pieces_text.f k t333).bind fun t336 => (some t336)))) else (none)) else (none))) else (none))))) = some r := by rw [if_neg (show ¬ (false = true) by decide)] at H; exact H
  clear H
  have H := H1
  clear H1
  replace H := Option.bind_eq_some_iff.mp H
  obtain ⟨t309, A80, H⟩ := H
  try dsimp only at H
  have A8 := Aside0.mk A80
  clear A80
  replace H := Option.bind_eq_some_iff.mp H
  obtain ⟨t312, A90, H⟩ := H
  try dsimp only at H
  have A9 := Aside0.mk A90
  clear A90
  by_cases c10 : (t309.length : Int) < (t312.length : Int)
  ·rw [if_pos c10] at H
   have c10b0 : decide ((t309.length : Int) < (t312.length : Int)) = true := decide_eq_true c10
   have c10b1 : decide (t309.length < t312.length) = true := decide_eq_true (Int.ofNat_lt.mp c10)
   clear c10
   by_cases c11 : t312.length < 17592186044416
   case neg => rw [if_neg c11] at H; exact absurd H (by simp)
   rw [if_pos c11] at H
   have LMc11 := Aside0.mk c11
   clear c11
   obtain ⟨y315, hy315⟩ : ∃ y_ : List Int, y_ = (t312 ++ [0]) := ⟨_, rfl⟩
   replace H : (if 0 ≤ (wrap64 ((wrap64 ((y315.length : Int) - 1)) - (t309.length : Int))) then (if t309.length + (wrap64 ((wrap64 ((y315.length : Int) - 1)) - (t309.length : Int)) : Int).toNat < 17592186044416 then ((decimal_pieces_back.f k y315 (t309 ++ List.replicate (wrap64 ((wrap64 ((y315.length : Int) - 1)) - (t309.length : Int)) : Int).toNat 0) 0).bind fun t321 => ((decimal_pieces_trim.f k t321).bind fun t322 => ((decimal_pieces_text.f k t322).bind fun t325 => (some t325)))) else (none)) else (none)) = some r := by first | (rw [hy315]; with_reducible exact H) | (have H2_ := (Option.bind_some _ _).symm.trans H; rw [hy315]; with_reducible exact H2_) | (have H2_ := (Option.bind_some _ _).symm.trans H; with_reducible exact H2_) | with_reducible exact H | (rw [hy315]; exact H) | exact H
   have Ny315 := Aside0.mk hy315
   clear hy315
   obtain ⟨ji12, hji12⟩ : ∃ j_ : Int, (wrap64 ((wrap64 ((y315.length : Int) - 1)) - (t309.length : Int))) = j_ := ⟨_, rfl⟩
   replace H : (if 0 ≤ (ji12) then (if t309.length + (ji12 : Int).toNat < 17592186044416 then ((decimal_pieces_back.f k y315 (t309 ++ List.replicate (ji12 : Int).toNat 0) 0).bind fun t321 => ((decimal_pieces_trim.f k t321).bind fun t322 => ((decimal_pieces_text.f k t322).bind fun t325 => (some t325)))) else (none)) else (none)) = some r := by first | (rw [hji12] at H; exact H) | (simp only [hji12] at H ⊢; exact H)
   (try rw [hji12] at A3)
   (try rw [hji12] at A8)
   (try rw [hji12] at A9)
   have hji12w : (IntKind.i64.wrap ((wrap64 ((y315.length : Int) - 1)) - (t309.length : Int))) = ji12 := (i64_w _).trans hji12
   by_cases c13 : 0 ≤ (ji12)
   case neg => rw [if_neg c13] at H; exact absurd H (by simp)
   rw [if_pos c13] at H
   have c13b0 := eq_true c13
   have c13b1 : decide (0 ≤ (ji12)) = true := decide_eq_true c13
   clear c13
   by_cases c14 : t309.length + (ji12 : Int).toNat < 17592186044416
   case neg => rw [if_neg c14] at H; exact absurd H (by simp)
   rw [if_pos c14] at H
   have LMc14 := Aside0.mk c14
   clear c14
   obtain ⟨y318, hy318⟩ : ∃ y_ : List Int, y_ = (t309 ++ List.replicate (ji12 : Int).toNat 0) := ⟨_, rfl⟩
   replace H : ((decimal_pieces_back.f k y315 y318 0).bind fun t321 => ((decimal_pieces_trim.f k t321).bind fun t322 => ((decimal_pieces_text.f k t322).bind fun t325 => (some t325)))) = some r := by first | (rw [hy318]; with_reducible exact H) | (have H2_ := (Option.bind_some _ _).symm.trans H; rw [hy318]; with_reducible exact H2_) | (have H2_ := (Option.bind_some _ _).symm.trans H; with_reducible exact H2_) | with_reducible exact H | (rw [hy318]; exact H) | exact H
   have Ny318 := Aside0.mk hy318
   clear hy318
   replace H := Option.bind_eq_some_iff.mp H
   obtain ⟨t321, A150, H⟩ := H
   try dsimp only at H
   have A15 := Aside0.mk A150
   clear A150
   replace H := Option.bind_eq_some_iff.mp H
   obtain ⟨t322, A160, H⟩ := H
   try dsimp only at H
   have A16 := Aside0.mk A160
   clear A160
   replace H := Option.bind_eq_some_iff.mp H
   obtain ⟨t325, A170, H⟩ := H
   try dsimp only at H
   have A17 := Aside0.mk A170
   clear A170
   obtain rfl := Option.some.inj H
   go_enter Tryz.func121, Tryz.ntmps121
   go_wp2_with (first | ((with_reducible refine gate_callee (f := 175) rfl ?_); refine goesK (some 13) Tryz.func175 [.string a0, .string a1] rfl rfl ?_; (with_reducible refine (decimal_both.calls k a0 a1 t305 t306 false _ ?side1 A3.out).mono ?_); (case side1 => refine TabW.below hT ?_; apply_rules [HB.out, below_alloc, pw_below_drewN, below_drew1]); rintro e w18 ⟨rfl, hb⟩; refine ⟨_, rfl, ?_⟩; replace HB := Aside0.mk (below_step (by apply_rules [HB.out, below_alloc, pw_below_drewN, below_drew1]) hb); (try clear hb)) | ((with_reducible refine gate_callee (f := 108) rfl ?_); refine goesK (some 23) Tryz.func108 [.string a0] rfl rfl ?_; (with_reducible refine (decimal_cut.calls k a0 t309 _ A8.out).mono ?_); rintro e w19 ⟨v310, rfl, ho0, hb⟩; refine ⟨_, rfl, ?_⟩; have HO311 := Aside0.mk (Kd.R_lower ho0 (below_size (by apply_rules [HB.out, below_alloc, pw_below_drewN, below_drew1]))); replace HB := Aside0.mk (below_step (by apply_rules [HB.out, below_alloc, pw_below_drewN, below_drew1]) hb); (try clear hb); (try clear ho0)) | ((with_reducible refine gate_callee (f := 108) rfl ?_); refine goesK (some 25) Tryz.func108 [.string a1] rfl rfl ?_; (with_reducible refine (decimal_cut.calls k a1 t312 _ A9.out).mono ?_); rintro e w20 ⟨v313, rfl, ho0, hb⟩; refine ⟨_, rfl, ?_⟩; have n0_ := Aside0.mk (Kd.R_elder' (by apply_rules [HO311.out, Kd.R_alloc, Kd.R_drewN, Kd.R_drew]) (Kd.R_base ho0) hb); have n1_ := Aside0.mk (Kd.R_lower (Kd.R_new' ho0 (Kd.R_lt (by apply_rules [HO311.out, Kd.R_alloc, Kd.R_drewN, Kd.R_drew]))) (below_size (by apply_rules [HB.out, below_alloc, pw_below_drewN, below_drew1]))); have n2_ := Aside0.mk (below_step (by apply_rules [HB.out, below_alloc, pw_below_drewN, below_drew1]) hb); clear HO311; clear HB; have HO311 := n0_; have HO314 := n1_; have HB := n2_; clear n0_ n1_ n2_; (try clear hb); (try clear ho0); obtain ⟨Ao21, co21, eo21⟩ := Kd.R_slice HO311.out; subst eo21; obtain ⟨Ao22, co22, eo22⟩ := Kd.R_slice HO314.out; subst eo22) | ((with_reducible refine gate_builtin (b := .append) (xs := #[.tmp 33, .tmp 34]) rfl ?_); at_builtin; refine Kd.R_append (Kd.int .u64) (w0 := w) w.heap.size rfl (.tmp 33) (.tmp 34) 141 139 (.int .u64 0) 8 rfl Tryz.underlying141 info139 rfl (by decide) (by omega) (.slice Ao22 t312.length co22) t312 0 [.int .u64 0] (fun k_ => some k_ ≠ (.slice Ao21 t309.length co21 : Value).ownBlock) (fun _ => False) rfl rfl ?aP (fun _ hk => hk.elim) ?aF ?aO ?aB ?aS ?aL ?_; (case aP => exact rfl); (case aB => exact (by apply_rules [HB.out, below_alloc, pw_below_drewN, below_drew1])); (case aF => exact (fun k_ hk => Kd.fresh' (Kd.R_lt (by apply_rules [HO311.out, Kd.R_alloc, Kd.R_drewN, Kd.R_drew])) k_ hk)); (case aO => exact (by (with_reducible repeat (first | apply Kd.R_alloc | apply Kd.R_drewN | apply Kd.R_drew)); exact Kd.R_mono HO314.out (fun _ hk => hk.2))); (case aS => exact (below_size (by apply_rules [HB.out, below_alloc, pw_below_drewN, below_drew1]))); (case aL => have := LMc11.out; omega); intro v316 w23 ho hb hg hat; rw [← Ny315.out] at ho; replace HO311 := Aside0.mk (Kd.R_after (ok := (fun _ => True)) (by apply_rules [HO311.out, Kd.R_alloc, Kd.R_drewN, Kd.R_drew]) hg hat); replace HB := Aside0.mk (hb); have HO317 := Aside0.mk (ho); clear HO314; clear ho hb hg hat; obtain ⟨Ao24, co24, eo24⟩ := Kd.R_slice HO317.out; subst eo24) | (at_builtin; refine Kd.R_append_zeros (Kd.int .u64) (w0 := w) w.heap.size rfl (.tmp 37) (.tmp 43) 141 3 139 (.int .u64 0) 8 rfl Tryz.underlying141 Tryz.underlying3 info139 rfl (by decide) (by omega) (.slice Ao21 t309.length co21) t309 0 (ji12 : Int) (fun k_ => some k_ ≠ (.slice Ao24 y315.length co24 : Value).ownBlock) rfl rfl rfl ?aF ?aO (of_decide_eq_true (by assumption)) ?aB ?aS ?aL ?_; (case aB => exact (by apply_rules [HB.out, below_alloc, pw_below_drewN, below_drew1])); (case aF => exact (fun k_ hk => Kd.fresh' (Kd.R_lt (by apply_rules [HO317.out, Kd.R_alloc, Kd.R_drewN, Kd.R_drew])) k_ hk)); (case aO => exact (by (with_reducible repeat (first | apply Kd.R_alloc | apply Kd.R_drewN | apply Kd.R_drew)); exact Kd.R_mono HO311.out (fun _ hk => hk.2))); (case aS => exact (below_size (by apply_rules [HB.out, below_alloc, pw_below_drewN, below_drew1]))); (case aL => have := LMc14.out; omega); intro v319 w25 ho hb hg hat; rw [← Ny318.out] at ho; replace HO317 := Aside0.mk (Kd.R_after (ok := (fun _ => True)) (by (with_reducible repeat (first | apply Kd.R_alloc | apply Kd.R_drewN | apply Kd.R_drew)); exact Kd.R_mono HO317.out (fun _ hk => ⟨trivial, hk⟩)) hg hat); replace HB := Aside0.mk (hb); have HO320 := Aside0.mk (ho); clear HO311; clear ho hb hg hat; obtain ⟨Ao26, co26, eo26⟩ := Kd.R_slice HO320.out; subst eo26) | ((with_reducible refine gate_callee (f := 176) rfl ?_); refine goesK (some 45) Tryz.func176 [.slice Ao24 y315.length co24, .slice Ao26 y318.length co26, .int .i64 0] rfl rfl ?_; (with_reducible refine (decimal_pieces_back.calls k (fun k_ => some k_ = (.slice Ao24 y315.length co24 : Value).ownBlock) (.slice Ao24 y315.length co24) y315 _ _ y318 0 t321 w _ ?side1 ?side2 ?side3 ?side4 A15.out).mono ?_); (case side1 => apply_rules [HB.out, below_alloc, pw_below_drewN, below_drew1]); (case side2 => exact Kd.R_tight rfl HO317.out); (case side3 => exact Kd.C_kept_own (HO320.out) (fun k_ hk_ hs_ => (hk_) hs_)); (case side4 => exact (Kd.R_reads' HO320.out).2.1); rintro e w27 ⟨rfl, hy0, hb, hkp⟩; refine ⟨_, rfl, ?_⟩; replace HO317 := Aside0.mk (Kd.R_reok rfl hy0 (fun k_ e_ => HO317.out.1 k_ e_)); replace HO320 := Aside0.mk (Kd.R_mono (ok' := fun k_ => some k_ ≠ (.slice Ao24 y315.length co24 : Value).ownBlock) (Kd.R_keptB (HO320.out) hkp (fun k_ hk_ hs_ => (hk_) hs_)) (fun k_ hk_ => hk_.1)); replace HB := Aside0.mk (hb); (try clear hb); (try clear hkp); (try clear hy0)) | ((with_reducible refine gate_callee (f := 173) rfl ?_); refine goesK (some 47) Tryz.func173 [.slice Ao24 y315.length co24] rfl rfl ?_; (with_reducible refine (decimal_pieces_trim.calls k (fun k_ => some k_ = (.slice Ao24 y315.length co24 : Value).ownBlock) (.slice Ao24 y315.length co24) t321 t322 w _ ?side1 ?side2 A16.out).mono ?_); (case side1 => apply_rules [HB.out, below_alloc, pw_below_drewN, below_drew1]); (case side2 => exact Kd.R_tight rfl HO317.out); rintro e w28 ⟨v323, rfl, ho0, hb, hkp⟩; refine ⟨_, rfl, ?_⟩; have n0_ := Aside0.mk (Kd.R_mono (ok' := fun k_ => some k_ ≠ (v323 : Value).ownBlock) (Kd.R_keptB (HO320.out) hkp (fun k_ hk_ hs_ => (hk_) hs_)) (fun k_ hk_ => fun e_ => Or.elim (ho0.1 k_ e_.symm) (fun hs_ => hk_.2.1 hs_) (fun hn_ => Nat.not_le.2 hk_.2.2 hn_))); have n1_ := Aside0.mk (Kd.R_mono (ok' := fun k_ => some k_ ≠ (.slice Ao26 y318.length co26 : Value).ownBlock) ho0 (fun k_ hk_ => Or.elim hk_ (fun hs_ => fun e_ => (((HO320.out).1 k_ e_.symm)) hs_) (fun hn_ => (Kd.fresh' (Kd.R_lt (by apply_rules [HO320.out, Kd.R_alloc, Kd.R_drewN, Kd.R_drew])) k_ hn_)))); have n2_ := Aside0.mk (hb); clear HO320; clear HB; clear HO317; have HO320 := n0_; have HO324 := n1_; have HB := n2_; clear n0_ n1_ n2_; (try clear hb); (try clear hkp); (try clear ho0); obtain ⟨Ao29, co29, eo29⟩ := Kd.R_slice HO324.out; subst eo29) | ((with_reducible refine gate_callee (f := 110) rfl ?_); refine goesK (some 48) Tryz.func110 [.slice Ao29 t322.length co29] rfl rfl ?_; (with_reducible refine (decimal_pieces_text.calls k _ _ t322 t325 _ ?side1 ?side2 A17.out).mono ?_); (case side1 => apply_rules [(Kd.R_reads' HO324.out).2.2, Kd.C_alloc, Kd.C_drewN, Kd.C_drew]); (case side2 => exact (Kd.R_reads' HO324.out).2.1); rintro e w30 ⟨rfl, hb⟩; refine ⟨_, rfl, ?_⟩; replace HO320 := Aside0.mk (Kd.R_below (by apply_rules [HO320.out, Kd.R_alloc, Kd.R_drewN, Kd.R_drew]) hb); replace HO324 := Aside0.mk (Kd.R_below (by apply_rules [HO324.out, Kd.R_alloc, Kd.R_drewN, Kd.R_drew]) hb); replace HB := Aside0.mk (below_step (by apply_rules [HB.out, below_alloc, pw_below_drewN, below_drew1]) hb); (try clear hb)))
   go_ret
   exact ⟨by first | rfl | (simp [errW_none, errW_some] <;> rfl) | (simp only [← hji12]; first | rfl | (simp [errW_none, errW_some] <;> rfl)) | (simp [*, errW_none, errW_some] <;> rfl), by apply_rules [HB.out, below_alloc, pw_below_drewN, below_drew1]⟩
  ·rw [if_neg c10] at H
   have c10b0 : decide ((t309.length : Int) < (t312.length : Int)) = false := decide_eq_false c10
   have c10b1 : decide (t309.length < t312.length) = false := decide_eq_false (fun h => c10 (Int.ofNat_lt.mpr h))
   clear c10
   by_cases c31 : t309.length < 17592186044416
   case neg => rw [if_neg c31] at H; exact absurd H (by simp)
   rw [if_pos c31] at H
   have LMc31 := Aside0.mk c31
   clear c31
   obtain ⟨y326, hy326⟩ : ∃ y_ : List Int, y_ = (t309 ++ [0]) := ⟨_, rfl⟩
   replace H : (if 0 ≤ (wrap64 ((wrap64 ((y326.length : Int) - 1)) - (t312.length : Int))) then (if t312.length + (wrap64 ((wrap64 ((y326.length : Int) - 1)) - (t312.length : Int)) : Int).toNat < 17592186044416 then ((decimal_pieces_back.f k y326 (t312 ++ List.replicate (wrap64 ((wrap64 ((y326.length : Int) - 1)) - (t312.length : Int)) : Int).toNat 0) 0).bind fun t332 => ((decimal_pieces_trim.f k t332).bind fun t333 => ((decimal_pieces_text.f k t333).bind fun t336 => (some t336)))) else (none)) else (none)) = some r := by first | (rw [hy326]; with_reducible exact H) | (have H2_ := (Option.bind_some _ _).symm.trans H; rw [hy326]; with_reducible exact H2_) | (have H2_ := (Option.bind_some _ _).symm.trans H; with_reducible exact H2_) | with_reducible exact H | (rw [hy326]; exact H) | exact H
   have Ny326 := Aside0.mk hy326
   clear hy326
   obtain ⟨ji32, hji32⟩ : ∃ j_ : Int, (wrap64 ((wrap64 ((y326.length : Int) - 1)) - (t312.length : Int))) = j_ := ⟨_, rfl⟩
   replace H : (if 0 ≤ (ji32) then (if t312.length + (ji32 : Int).toNat < 17592186044416 then ((decimal_pieces_back.f k y326 (t312 ++ List.replicate (ji32 : Int).toNat 0) 0).bind fun t332 => ((decimal_pieces_trim.f k t332).bind fun t333 => ((decimal_pieces_text.f k t333).bind fun t336 => (some t336)))) else (none)) else (none)) = some r := by first | (rw [hji32] at H; exact H) | (simp only [hji32] at H ⊢; exact H)
   (try rw [hji32] at A3)
   (try rw [hji32] at A8)
   (try rw [hji32] at A9)
   have hji32w : (IntKind.i64.wrap ((wrap64 ((y326.length : Int) - 1)) - (t312.length : Int))) = ji32 := (i64_w _).trans hji32
   by_cases c33 : 0 ≤ (ji32)
   case neg => rw [if_neg c33] at H; exact absurd H (by simp)
   rw [if_pos c33] at H
   have c33b0 := eq_true c33
   have c33b1 : decide (0 ≤ (ji32)) = true := decide_eq_true c33
   clear c33
   by_cases c34 : t312.length + (ji32 : Int).toNat < 17592186044416
   case neg => rw [if_neg c34] at H; exact absurd H (by simp)
   rw [if_pos c34] at H
   have LMc34 := Aside0.mk c34
   clear c34
   obtain ⟨y329, hy329⟩ : ∃ y_ : List Int, y_ = (t312 ++ List.replicate (ji32 : Int).toNat 0) := ⟨_, rfl⟩
   replace H : ((decimal_pieces_back.f k y326 y329 0).bind fun t332 => ((decimal_pieces_trim.f k t332).bind fun t333 => ((decimal_pieces_text.f k t333).bind fun t336 => (some t336)))) = some r := by first | (rw [hy329]; with_reducible exact H) | (have H2_ := (Option.bind_some _ _).symm.trans H; rw [hy329]; with_reducible exact H2_) | (have H2_ := (Option.bind_some _ _).symm.trans H; with_reducible exact H2_) | with_reducible exact H | (rw [hy329]; exact H) | exact H
   have Ny329 := Aside0.mk hy329
   clear hy329
   replace H := Option.bind_eq_some_iff.mp H
   obtain ⟨t332, A350, H⟩ := H
   try dsimp only at H
   have A35 := Aside0.mk A350
   clear A350
   replace H := Option.bind_eq_some_iff.mp H
   obtain ⟨t333, A360, H⟩ := H
   try dsimp only at H
   have A36 := Aside0.mk A360
   clear A360
   replace H := Option.bind_eq_some_iff.mp H
   obtain ⟨t336, A370, H⟩ := H
   try dsimp only at H
   have A37 := Aside0.mk A370
   clear A370
   obtain rfl := Option.some.inj H
   go_enter Tryz.func121, Tryz.ntmps121
   go_wp2_with (first | ((with_reducible refine gate_callee (f := 175) rfl ?_); refine goesK (some 13) Tryz.func175 [.string a0, .string a1] rfl rfl ?_; (with_reducible refine (decimal_both.calls k a0 a1 t305 t306 false _ ?side1 A3.out).mono ?_); (case side1 => refine TabW.below hT ?_; apply_rules [HB.out, below_alloc, pw_below_drewN, below_drew1]); rintro e w38 ⟨rfl, hb⟩; refine ⟨_, rfl, ?_⟩; replace HB := Aside0.mk (below_step (by apply_rules [HB.out, below_alloc, pw_below_drewN, below_drew1]) hb); (try clear hb)) | ((with_reducible refine gate_callee (f := 108) rfl ?_); refine goesK (some 23) Tryz.func108 [.string a0] rfl rfl ?_; (with_reducible refine (decimal_cut.calls k a0 t309 _ A8.out).mono ?_); rintro e w39 ⟨v310, rfl, ho0, hb⟩; refine ⟨_, rfl, ?_⟩; have HO311 := Aside0.mk (Kd.R_lower ho0 (below_size (by apply_rules [HB.out, below_alloc, pw_below_drewN, below_drew1]))); replace HB := Aside0.mk (below_step (by apply_rules [HB.out, below_alloc, pw_below_drewN, below_drew1]) hb); (try clear hb); (try clear ho0)) | ((with_reducible refine gate_callee (f := 108) rfl ?_); refine goesK (some 25) Tryz.func108 [.string a1] rfl rfl ?_; (with_reducible refine (decimal_cut.calls k a1 t312 _ A9.out).mono ?_); rintro e w40 ⟨v313, rfl, ho0, hb⟩; refine ⟨_, rfl, ?_⟩; have n0_ := Aside0.mk (Kd.R_elder' (by apply_rules [HO311.out, Kd.R_alloc, Kd.R_drewN, Kd.R_drew]) (Kd.R_base ho0) hb); have n1_ := Aside0.mk (Kd.R_lower (Kd.R_new' ho0 (Kd.R_lt (by apply_rules [HO311.out, Kd.R_alloc, Kd.R_drewN, Kd.R_drew]))) (below_size (by apply_rules [HB.out, below_alloc, pw_below_drewN, below_drew1]))); have n2_ := Aside0.mk (below_step (by apply_rules [HB.out, below_alloc, pw_below_drewN, below_drew1]) hb); clear HO311; clear HB; have HO311 := n0_; have HO314 := n1_; have HB := n2_; clear n0_ n1_ n2_; (try clear hb); (try clear ho0); obtain ⟨Ao41, co41, eo41⟩ := Kd.R_slice HO311.out; subst eo41; obtain ⟨Ao42, co42, eo42⟩ := Kd.R_slice HO314.out; subst eo42) | ((with_reducible refine gate_builtin (b := .append) (xs := #[.tmp 33, .tmp 34]) rfl ?_); at_builtin; refine Kd.R_append (Kd.int .u64) (w0 := w) w.heap.size rfl (.tmp 33) (.tmp 34) 141 139 (.int .u64 0) 8 rfl Tryz.underlying141 info139 rfl (by decide) (by omega) (.slice Ao41 t309.length co41) t309 0 [.int .u64 0] (fun k_ => some k_ ≠ (.slice Ao42 t312.length co42 : Value).ownBlock) (fun _ => False) rfl rfl ?aP (fun _ hk => hk.elim) ?aF ?aO ?aB ?aS ?aL ?_; (case aP => exact rfl); (case aB => exact (by apply_rules [HB.out, below_alloc, pw_below_drewN, below_drew1])); (case aF => exact (fun k_ hk => Kd.fresh' (Kd.R_lt (by apply_rules [HO314.out, Kd.R_alloc, Kd.R_drewN, Kd.R_drew])) k_ hk)); (case aO => exact (by (with_reducible repeat (first | apply Kd.R_alloc | apply Kd.R_drewN | apply Kd.R_drew)); exact Kd.R_mono HO311.out (fun _ hk => hk.2))); (case aS => exact (below_size (by apply_rules [HB.out, below_alloc, pw_below_drewN, below_drew1]))); (case aL => have := LMc31.out; omega); intro v327 w43 ho hb hg hat; rw [← Ny326.out] at ho; replace HO314 := Aside0.mk (Kd.R_after (ok := (fun _ => True)) (by apply_rules [HO314.out, Kd.R_alloc, Kd.R_drewN, Kd.R_drew]) hg hat); replace HB := Aside0.mk (hb); have HO328 := Aside0.mk (ho); clear HO311; clear ho hb hg hat; obtain ⟨Ao44, co44, eo44⟩ := Kd.R_slice HO328.out; subst eo44) | (at_builtin; refine Kd.R_append_zeros (Kd.int .u64) (w0 := w) w.heap.size rfl (.tmp 37) (.tmp 43) 141 3 139 (.int .u64 0) 8 rfl Tryz.underlying141 Tryz.underlying3 info139 rfl (by decide) (by omega) (.slice Ao42 t312.length co42) t312 0 (ji32 : Int) (fun k_ => some k_ ≠ (.slice Ao44 y326.length co44 : Value).ownBlock) rfl rfl rfl ?aF ?aO (of_decide_eq_true (by assumption)) ?aB ?aS ?aL ?_; (case aB => exact (by apply_rules [HB.out, below_alloc, pw_below_drewN, below_drew1])); (case aF => exact (fun k_ hk => Kd.fresh' (Kd.R_lt (by apply_rules [HO328.out, Kd.R_alloc, Kd.R_drewN, Kd.R_drew])) k_ hk)); (case aO => exact (by (with_reducible repeat (first | apply Kd.R_alloc | apply Kd.R_drewN | apply Kd.R_drew)); exact Kd.R_mono HO314.out (fun _ hk => hk.2))); (case aS => exact (below_size (by apply_rules [HB.out, below_alloc, pw_below_drewN, below_drew1]))); (case aL => have := LMc34.out; omega); intro v330 w45 ho hb hg hat; rw [← Ny329.out] at ho; replace HO328 := Aside0.mk (Kd.R_after (ok := (fun _ => True)) (by (with_reducible repeat (first | apply Kd.R_alloc | apply Kd.R_drewN | apply Kd.R_drew)); exact Kd.R_mono HO328.out (fun _ hk => ⟨trivial, hk⟩)) hg hat); replace HB := Aside0.mk (hb); have HO331 := Aside0.mk (ho); clear HO314; clear ho hb hg hat; obtain ⟨Ao46, co46, eo46⟩ := Kd.R_slice HO331.out; subst eo46) | ((with_reducible refine gate_callee (f := 176) rfl ?_); refine goesK (some 45) Tryz.func176 [.slice Ao44 y326.length co44, .slice Ao46 y329.length co46, .int .i64 0] rfl rfl ?_; (with_reducible refine (decimal_pieces_back.calls k (fun k_ => some k_ = (.slice Ao44 y326.length co44 : Value).ownBlock) (.slice Ao44 y326.length co44) y326 _ _ y329 0 t332 w _ ?side1 ?side2 ?side3 ?side4 A35.out).mono ?_); (case side1 => apply_rules [HB.out, below_alloc, pw_below_drewN, below_drew1]); (case side2 => exact Kd.R_tight rfl HO328.out); (case side3 => exact Kd.C_kept_own (HO331.out) (fun k_ hk_ hs_ => (hk_) hs_)); (case side4 => exact (Kd.R_reads' HO331.out).2.1); rintro e w47 ⟨rfl, hy0, hb, hkp⟩; refine ⟨_, rfl, ?_⟩; replace HO328 := Aside0.mk (Kd.R_reok rfl hy0 (fun k_ e_ => HO328.out.1 k_ e_)); replace HO331 := Aside0.mk (Kd.R_mono (ok' := fun k_ => some k_ ≠ (.slice Ao44 y326.length co44 : Value).ownBlock) (Kd.R_keptB (HO331.out) hkp (fun k_ hk_ hs_ => (hk_) hs_)) (fun k_ hk_ => hk_.1)); replace HB := Aside0.mk (hb); (try clear hb); (try clear hkp); (try clear hy0)) | ((with_reducible refine gate_callee (f := 173) rfl ?_); refine goesK (some 47) Tryz.func173 [.slice Ao44 y326.length co44] rfl rfl ?_; (with_reducible refine (decimal_pieces_trim.calls k (fun k_ => some k_ = (.slice Ao44 y326.length co44 : Value).ownBlock) (.slice Ao44 y326.length co44) t332 t333 w _ ?side1 ?side2 A36.out).mono ?_); (case side1 => apply_rules [HB.out, below_alloc, pw_below_drewN, below_drew1]); (case side2 => exact Kd.R_tight rfl HO328.out); rintro e w48 ⟨v334, rfl, ho0, hb, hkp⟩; refine ⟨_, rfl, ?_⟩; have n0_ := Aside0.mk (Kd.R_mono (ok' := fun k_ => some k_ ≠ (v334 : Value).ownBlock) (Kd.R_keptB (HO331.out) hkp (fun k_ hk_ hs_ => (hk_) hs_)) (fun k_ hk_ => fun e_ => Or.elim (ho0.1 k_ e_.symm) (fun hs_ => hk_.2.1 hs_) (fun hn_ => Nat.not_le.2 hk_.2.2 hn_))); have n1_ := Aside0.mk (Kd.R_mono (ok' := fun k_ => some k_ ≠ (.slice Ao46 y329.length co46 : Value).ownBlock) ho0 (fun k_ hk_ => Or.elim hk_ (fun hs_ => fun e_ => (((HO331.out).1 k_ e_.symm)) hs_) (fun hn_ => (Kd.fresh' (Kd.R_lt (by apply_rules [HO331.out, Kd.R_alloc, Kd.R_drewN, Kd.R_drew])) k_ hn_)))); have n2_ := Aside0.mk (hb); clear HO331; clear HB; clear HO328; have HO331 := n0_; have HO335 := n1_; have HB := n2_; clear n0_ n1_ n2_; (try clear hb); (try clear hkp); (try clear ho0); obtain ⟨Ao49, co49, eo49⟩ := Kd.R_slice HO335.out; subst eo49) | ((with_reducible refine gate_callee (f := 110) rfl ?_); refine goesK (some 48) Tryz.func110 [.slice Ao49 t333.length co49] rfl rfl ?_; (with_reducible refine (decimal_pieces_text.calls k _ _ t333 t336 _ ?side1 ?side2 A37.out).mono ?_); (case side1 => apply_rules [(Kd.R_reads' HO335.out).2.2, Kd.C_alloc, Kd.C_drewN, Kd.C_drew]); (case side2 => exact (Kd.R_reads' HO335.out).2.1); rintro e w50 ⟨rfl, hb⟩; refine ⟨_, rfl, ?_⟩; replace HO331 := Aside0.mk (Kd.R_below (by apply_rules [HO331.out, Kd.R_alloc, Kd.R_drewN, Kd.R_drew]) hb); replace HO335 := Aside0.mk (Kd.R_below (by apply_rules [HO335.out, Kd.R_alloc, Kd.R_drewN, Kd.R_drew]) hb); replace HB := Aside0.mk (below_step (by apply_rules [HB.out, below_alloc, pw_below_drewN, below_drew1]) hb); (try clear hb)))
   go_ret
   exact ⟨by first | rfl | (simp [errW_none, errW_some] <;> rfl) | (simp only [← hji32]; first | rfl | (simp [errW_none, errW_some] <;> rfl)) | (simp [*, errW_none, errW_some] <;> rfl), by apply_rules [HB.out, below_alloc, pw_below_drewN, below_drew1]⟩
end Go.Proofs.YtccebdpjdpjgnaaGreatDoor.P
end
section
namespace Go.Proofs.YtccebdpjdpjgnaaGreatDoor.P
open Go.RowKit Go.Proofs.YtccebdpjdpjgnaaGreatDoorW.PrintWords Go.Proofs.YtccebdpjdpjgnaaGreatDoorW.PrintLast Go.Proofs.YtccebdpjdpjgnaaGreatDoorW.PrintMore
attribute [local go_sem] max2_int min2_int max_two min_two
def decimal_Compare.f (a0 a1 : ByteArray) : Option Int :=
 if a0.size ≤ 140737488351232 ∧ a1.size ≤ 140737488351232 then some (if a0.size = a1.size then (if Op.bytesLess a0.toList a1.toList = true then -1 else if a0.toList = a1.toList then 0 else 1) else if a0.size < a1.size then -1 else 1) else none
set_option maxHeartbeats 1000000 in
theorem decimal_Compare.calls (a0 a1 : ByteArray) (r : Int) (w : World) (h : decimal_Compare.f a0 a1 = some r) :
  Calls Tryz.prog 114 #[.string a0, .string a1] w fun e w' => e = .returned (.int .i64 r) ∧ Below w.heap.size w w' := by
 unfold decimal_Compare.f at h
 split at h
 ·rename_i hb
  injection h with h
  obtain ⟨b0, b1⟩ := hb
  by_cases hs : a0.size = a1.size
  ·rw [if_pos hs] at h
   have hs1 : ((a0.size : Int) != (a1.size : Int)) = false := by simp [hs]
   by_cases hl : Op.bytesLess a0.toList a1.toList = true
   ·rw [if_pos hl] at h
    subst h
    clear hs
    go_enter Tryz.func114, Tryz.ntmps114
    go_wp2
    go_ret
    exact ⟨rfl, by first | exact Below.refl _ _ | exact pw_below_drewN (Below.refl _ _) _⟩
   ·rw [if_neg hl] at h
    have hl' : Op.bytesLess a0.toList a1.toList = false := by simpa using hl
    by_cases he : a0.toList = a1.toList
    ·rw [if_pos he] at h
     subst h
     have he' : (a0.toList == a1.toList) = true := by simp [he]
     clear hs hl he
     go_enter Tryz.func114, Tryz.ntmps114
     go_wp2
     go_ret
     exact ⟨rfl, by first | exact Below.refl _ _ | exact pw_below_drewN (Below.refl _ _) _⟩
    ·rw [if_neg he] at h
     subst h
     have he' : (a0.toList == a1.toList) = false := by simp [he]
     clear hs hl
     go_enter Tryz.func114, Tryz.ntmps114
     go_wp2
     go_ret
     exact ⟨rfl, by first | exact Below.refl _ _ | exact pw_below_drewN (Below.refl _ _) _⟩
  ·rw [if_neg hs] at h
   have hs1 : ((a0.size : Int) != (a1.size : Int)) = true := by simp; omega
   by_cases hl : a0.size < a1.size
   ·rw [if_pos hl] at h
    subst h
    have hd : (a0.size : Int) - (a1.size : Int) ≤ -1 := by omega
    clear hl hs
    go_enter Tryz.func114, Tryz.ntmps114
    go_wp2
    all_goals first | (exfalso; rename_i hx _; split at hx <;> omega) | (exfalso; rename_i hx; split at hx <;> omega) | (exfalso; omega) | skip
    all_goals (go_ret; exact ⟨rfl, by first | exact Below.refl _ _ | exact pw_below_drewN (Below.refl _ _) _⟩)
   ·rw [if_neg hl] at h
    subst h
    have hd : 1 ≤ (a0.size : Int) - (a1.size : Int) := by omega
    have hd2 : -1 < (a0.size : Int) - (a1.size : Int) := by omega
    clear hl hs
    go_enter Tryz.func114, Tryz.ntmps114
    go_wp2
    all_goals first | (exfalso; rename_i hx _; split at hx <;> omega) | (exfalso; rename_i hx; split at hx <;> omega) | (exfalso; omega) | skip
    all_goals (go_ret; exact ⟨rfl, by first | exact Below.refl _ _ | exact pw_below_drewN (Below.refl _ _) _⟩)
 ·cases h
end Go.Proofs.YtccebdpjdpjgnaaGreatDoor.P
end
section
namespace Go.Proofs.YtccebdpjdpjgnaaGreatDoor.P
open Go.RowKit Go.Proofs.YtccebdpjdpjgnaaGreatDoorW.PrintWords Go.Proofs.YtccebdpjdpjgnaaGreatDoorW.PrintLast Go.Proofs.YtccebdpjdpjgnaaGreatDoorW.PrintMore
attribute [local go_sem] max2_int min2_int max_two min_two max_three min_three max_four min_four
def decimal_Sub.f (k : Nat) (a0 : ByteArray) (a1 : ByteArray) : Option (ByteArray × Int) := (decimal_Compare.f a0 a1).bind fun t337 => (if t337 < 0 then (some ((⟨#[]⟩ : ByteArray), 3)) else ((decimal_both.f k a0 a1).bind fun bt338 => (if bt338.2.2 = true then ((decimal_Of.f (IntKind.u64.wrap (bt338.1 - bt338.2.1))).bind fun t341 => (some (t341, 0))) else ((decimal_cut.f k a0).bind fun t342 => (if t342.length < 17592186044416 then ((some (t342 ++ [0] : List Int)).bind fun y345 => ((decimal_cut.f k a1).bind fun t348 => ((decimal_cut.f k a1).bind fun t351 => (if 0 ≤ (wrap64 ((wrap64 ((y345.length : Int) - 1)) - (t351.length : Int))) then (if t348.length + (wrap64 ((wrap64 ((y345.length : Int) - 1)) - (t351.length : Int)) : Int).toNat < 17592186044416 then ((decimal_pieces_take.f k y345 (t348 ++ List.replicate (wrap64 ((wrap64 ((y345.length : Int) - 1)) - (t351.length : Int)) : Int).toNat 0) 1 0).bind fun bt357 => ((decimal_pieces_trim.f k bt357.2).bind fun t359 => ((decimal_pieces_text.f k t359).bind fun t362 => (some (t362, 0))))) else (none)) else (none))))) else (none))))))
theorem decimal_Sub.mono : ∀ a0 a1 k, LeO (decimal_Sub.f k a0 a1) (decimal_Sub.f (k + 1) a0 a1) := by
 intro a0 a1 k
 unfold decimal_Sub.f
 repeat' first
   | (with_reducible exact decimal_both.mono _ _ _)
   | (with_reducible exact decimal_cut.mono _ _)
   | (with_reducible exact decimal_pieces_take.mono _ _ _ _ _)
   | (with_reducible exact decimal_pieces_text.mono _ _)
   | (with_reducible exact decimal_pieces_trim.mono _ _)
   | (with_reducible exact LeO.refl _)
   | (with_reducible exact LeO.none _)
   | (with_reducible refine LeO.ite ?_ ?_)
   | (with_reducible refine LeO.bind ?_ (fun _ => ?_))
end Go.Proofs.YtccebdpjdpjgnaaGreatDoor.P
end
