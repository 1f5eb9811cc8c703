/-
words of the walks
-/
import Derived.Test.YtccebdpjdpjgnaaGreatDoorPE36
import Derived.Test.YtccebdpjdpjgnaaGreatDoorPE38
import Derived.Test.YtccebdpjdpjgnaaGreatDoorPE41
set_option linter.unusedVariables false
set_option linter.unusedSimpArgs false
namespace Go.Proofs.YtccebdpjdpjgnaaGreatDoor.P
open Go.RowKit Go.Proofs.YtccebdpjdpjgnaaGreatDoorW.PrintWords Go.Proofs.YtccebdpjdpjgnaaGreatDoorW.PrintLast Go.Proofs.YtccebdpjdpjgnaaGreatDoorW.PrintMore
attribute [local go_sem] max2_int min2_int max_two min_two max_three min_three max_four min_four
set_option linter.unusedVariables false
set_option linter.unusedSimpArgs false
mutual
def schismalaw11_PrimeEmbeds.j0 : Nat → List Int → Bool → Int → Int → Option (Bool)
 | 0, _, _, _, _ => none
 | k + 1, x1, x25, x1170000, x1170001 => if x25 = true then ((schismalaw11_known.f k).bind fun t1171 => (some t1171)) else ((schismalaw11_Make.f k x1170000).bind fun t1172 => ((schismalaw11_Make.f k x1170001).bind fun t1175 => ((prime_Embed.f k t1172 t1175 x1).bind fun bt1178 => ((prime_Restrict.f k t1172 t1175 x1).bind fun bt1182 => ((schismalaw11_checkRow.f t1172 x1).bind fun t1186 => (if t1186 = 0 then (if 0 ≤ (t1175.length : Int) then (if ((t1175.length : Int) : Int).toNat ≤ 35184372088832 then (schismalaw11_PrimeEmbeds.l0 k x1 t1172 t1175 bt1178.1 bt1178.2 bt1182.1 bt1182.2 (List.replicate ((t1175.length : Int) : Int).toNat 0) false x1 (x1.length : Int) 0) else (none)) else (none)) else (if bt1178.2 = t1186 then (if bt1182.2 = t1186 then (some ((wrap64 ((bt1178.1.length : Int) + (bt1182.1.length : Int))) == 0)) else (some false)) else (some false))))))))
def schismalaw11_PrimeEmbeds.l0 : Nat → List Int → List Int → List Int → List Int → Int → List Int → Int → List Int → Bool → List Int → Int → Int → Option (Bool)
 | 0, _, _, _, _, _, _, _, _, _, _, _, _ => none
 | k + 1, x1, x5, x6, x7, x8, x9, x10, x12, x13, x71, x72, x73 => if x73 < x72 then (if 0 ≤ x73 then (if x73 < (x71.length : Int) then (if x73 < (x5.length : Int) then ((api_Primes_int_70.f k x6 (rd x5 x73)).bind fun t1192 => (if t1192 ≥ 0 then (if 0 ≤ t1192 then (if t1192 < (x12.length : Int) then (schismalaw11_PrimeEmbeds.l0 k x1 x5 x6 x7 x8 x9 x10 (x12.set (t1192 : Int).toNat (rd x71 x73)) x13 x71 x72 (wrap64 (x73 + 1))) else (none)) else (none)) else (if x13 = true then (schismalaw11_PrimeEmbeds.l0 k x1 x5 x6 x7 x8 x9 x10 x12 true x71 x72 (wrap64 (x73 + 1))) else (schismalaw11_PrimeEmbeds.l0 k x1 x5 x6 x7 x8 x9 x10 x12 ((rd x71 x73) != 0) x71 x72 (wrap64 (x73 + 1)))))) else (none)) else (none)) else (none)) else (if x10 = 0 then ((api_Row_int.f k x9 x12).bind fun t1194 => (schismalaw11_PrimeEmbeds.j2 k x1 x5 x6 x7 x8 x12 x13 (!t1194))) else (schismalaw11_PrimeEmbeds.j2 k x1 x5 x6 x7 x8 x12 x13 true))
def schismalaw11_PrimeEmbeds.j2 : Nat → List Int → List Int → List Int → List Int → Int → List Int → Bool → Bool → Option (Bool)
 | 0, _, _, _, _, _, _, _, _ => none
 | k + 1, x1, x5, x6, x7, x8, x12, x13, x103 => if x103 = true then (some false) else (if x13 = true then (if x8 = 25 then (some ((x7.length : Int) == 0)) else (some false)) else ((prime_Embed.f k x6 x5 x7).bind fun bt1195 => (if x8 = 0 then ((api_Row_int.f k x7 x12).bind fun t1199 => (if t1199 = true then (if bt1195.2 = 0 then ((api_Row_int.f k bt1195.1 x1).bind fun t1200 => (some t1200)) else (some false)) else (some false))) else (some false))))
end
def schismalaw11_PrimeEmbeds.f (k : Nat) (a0_0 : Int) (a0_1 : Int) (l1 : List Int) : Option (Bool) := (schismalaw11_known.f k).bind fun t1170 => (if t1170 = true then (schismalaw11_PrimeEmbeds.j0 k l1 (decide ((l1.length : Int) > 8)) a0_0 a0_1) else (schismalaw11_PrimeEmbeds.j0 k l1 true a0_0 a0_1))
def schismalaw11_PrimeEmbeds.T3 : Bool × List (List Nat × List Nat) := (true, [([], []), ([0], [0]), ([1], [1]), ([], []), ([3], [3]), ([4, 2], [4]), ([2, 5, 0, 1, 2], [2]), ([5, 6, 0, 1, 2, 3, 4, 5, 6], [5])])
def schismalaw11_PrimeEmbeds.B3 : List Nat := [0, 1, 3, 0, 8, 31, 63, 127]
theorem schismalaw11_PrimeEmbeds.tab3 : rtab .any (opsOf Tryz.f13 3) = schismalaw11_PrimeEmbeds.T3 := by kernel_rfl
theorem schismalaw11_PrimeEmbeds.bits3 : waitsOk schismalaw11_PrimeEmbeds.T3.2 schismalaw11_PrimeEmbeds.B3 = true := by kernel_rfl
theorem schismalaw11_PrimeEmbeds.j2_no {k : Nat} {x1 x5 x6 x7 x8 x12 x13} {r : Bool} (h : schismalaw11_PrimeEmbeds.j2 k x1 x5 x6 x7 x8 x12 x13 true = some r) (e : r = true) : False := by
 subst e
 cases k <;> simp [schismalaw11_PrimeEmbeds.j2] at h
set_option maxHeartbeats 8000000 in
set_option maxRecDepth 100000 in
theorem schismalaw11_PrimeEmbeds.calls (k : Nat) (a0_0 : Int) (a0_1 : Int) (A1 : Option Addr) (c1 : Nat) (l1 : List Int) (r : Bool) (w : World) (hT : TabW w) (hr1 : Kd.C (Kd.int .i64) w A1 l1.length l1) (hc1 : l1.length ≤ c1) (h : schismalaw11_PrimeEmbeds.f k a0_0 a0_1 l1 = some r) (hr : r = true) (hk : ∀ k, schismalaw11_known.f k ≠ some false) :
  Calls Tryz.prog 13 #[.agg #[.int .u16 a0_0, .int .u16 a0_1], .slice A1 l1.length c1] w fun e w' => e = .returned (.bool r) ∧ Below w.heap.size w w' := by
 have hu88 := Tryz.underlying88
 have HR1 := Aside0.mk hr1
 have HC1 := Aside0.mk hc1
 clear hr1 hc1
 have HB := Aside0.mk (Below.refl w.heap.size w)
 have H : ((schismalaw11_known.f k).bind fun t1170 => (if t1170 = true then (schismalaw11_PrimeEmbeds.j0 k l1 (decide ((l1.length : Int) > 8)) a0_0 a0_1) else (schismalaw11_PrimeEmbeds.j0 k l1 true a0_0 a0_1))) = some r := h
 clear h
 have HC3 := Aside0.mk H
 clear H
 go_enter Tryz.func13, Tryz.ntmps13
 go_upto_region 1 with (first | ((with_reducible refine gate_dst (N := 2) rfl ?_); (try (refine gate_guard (by rfl) ?_; dsimp only)); refine box_event ?hg (N := 2) ?hd (cs := #[.int .u16 a0_0, .int .u16 a0_1]) (t := 88) ?hr ?_; (case hd => rfl); (case hg => rfl); (case hr => first | (go_simp; done) | (go_simp; rfl)); intro gb1169 hg w4 hbox hb; have n0_ := Aside0.mk (below_step (by repeat (first | (with_reducible first | exact HB.out | apply below_alloc | apply pw_below_drewN | apply below_drew1) | exact HB.out)) hb); have n1_ := Aside0.mk (hbox); have n2_ := Aside0.mk ((by rw [hg]; exact (below_size (by repeat (first | (with_reducible first | exact HB.out | apply below_alloc | apply pw_below_drewN | apply below_drew1) | exact HB.out))) : w.heap.size ≤ gb1169)); have n3_ := Aside0.mk ((by rw [hg]; exact (below_size (by repeat (first | (with_reducible first | exact HB.out | apply below_alloc | apply pw_below_drewN | apply below_drew1) | exact HB.out))) : w.heap.size ≤ gb1169)); clear HB; have HB := n0_; have BK1169 := n1_; have GW1169 := n2_; have GE1169 := n3_; clear n0_ n1_ n2_ n3_; clear hb hbox hg))
 (try simp only [Act.put, List.setIfInBounds_toArray, List.set_cons_zero, List.set_cons_succ])
 go_cut [25] (fun v25 wc => ∃ (kq : Nat) (x25_2 : Bool), v25 = .bool x25_2 ∧ Aside0 (schismalaw11_PrimeEmbeds.j0 kq l1 x25_2 a0_0 a0_1 = some r) ∧ Aside0 (kq ≤ k) ∧ Aside0 (wc.heap[gb1169]? = some (.cells #[.int .u16 a0_0, .int .u16 a0_1] 88 (0, 0))) ∧ Aside0 (Below w.heap.size w wc))
 case first =>
  have H := HC3.out
  clear HC3
  replace H := Option.bind_eq_some_iff.mp H
  obtain ⟨t1170, A50, H⟩ := H
  replace H : (if t1170 = true then (schismalaw11_PrimeEmbeds.j0 k l1 (decide ((l1.length : Int) > 8)) a0_0 a0_1) else (schismalaw11_PrimeEmbeds.j0 k l1 true a0_0 a0_1)) = some r := H
  have A5 := Aside0.mk A50
  clear A50
  by_cases c6 : t1170 = true
  ·subst c6
   have H1 : (schismalaw11_PrimeEmbeds.j0 k l1 (decide ((l1.length : Int) > 8)) a0_0 a0_1) = some r := by rw [if_pos rfl] at H; exact H
   clear H
   have H := H1
   clear H1
   have H' := Aside0.mk H
   clear H
   go_wp2_with (first | ((with_reducible refine gate_callee (f := 58) rfl ?_); refine goesL_ (some 19) rfl rfl Tryz.func58 (by kernel_rfl) rfl #[] rfl (by (try simp only [List.map_toArray, List.map_cons, List.map_nil]); first | done | rfl | (simp only [List.length_drop, List.length_take]; rfl)) ?_; (with_reducible refine (schismalaw11_known.calls k  true _ ?side1 A5.out (by first | rfl | assumption)).mono ?_); (case side1 => refine TabW.below hT ?_; repeat (first | (with_reducible first | exact HB.out | apply below_alloc | apply pw_below_drewN | apply below_drew1 | refine below_set ?_ GE1169.out) | exact HB.out)); rintro e w7 ⟨rfl, hb⟩; refine ⟨_, rfl, ?_⟩; have n0_ := Aside0.mk (blk_below (g := gb1169) (o := .cells #[.int .u16 a0_0, .int .u16 a0_1] 88 (0, 0)) (by (with_reducible repeat (first | refine blk_drewN ?_ _ | refine blk_drew ?_ | refine blk_alloc ?_ _)); exact BK1169.out) hb); have n1_ := Aside0.mk (below_step (by repeat (first | (with_reducible first | exact HB.out | apply below_alloc | apply pw_below_drewN | apply below_drew1 | refine below_set ?_ GE1169.out) | exact HB.out)) hb); clear BK1169; clear HB; have BK1169 := n0_; have HB := n1_; clear n0_ n1_; (try clear hb); (try clear hb2); (try clear hk); (try clear hi)))
   go_meet
   case rel => exact ⟨_, (decide ((l1.length : Int) > 8)), (by first | rfl | (simp; done) | (simp [*]; done)), H', ⟨by first | omega | exact Nat.le_refl _⟩, ⟨by (with_reducible repeat (first | refine blk_drewN ?_ _ | refine blk_drew ?_ | refine blk_alloc ?_ _)); exact BK1169.out⟩, ⟨by repeat (first | (with_reducible first | exact HB.out | apply below_alloc | apply pw_below_drewN | apply below_drew1 | refine below_set ?_ GE1169.out) | exact HB.out)⟩⟩
  ·replace c6 := Bool.eq_false_iff.mpr c6
   subst c6
   have H1 : (schismalaw11_PrimeEmbeds.j0 k l1 true a0_0 a0_1) = some r := by rw [if_neg (show ¬ (false = true) by decide)] at H; exact H
   clear H
   have H := H1
   clear H1
   have H' := Aside0.mk H
   clear H
   exact absurd A5.out (hk _)
 case rest =>
  clear HC3
  try clear c1
  try clear p2
  try clear c5
  try clear c6
  obtain ⟨kq, x25_2, rfl, HA, HJ2, BK1169, HB⟩ := hcut
  cases kq with
  | zero => exact absurd HA.out (by simp [schismalaw11_PrimeEmbeds.j0])
  | succ kj2 =>
   have H := HA.out
   clear HA
   simp only [schismalaw11_PrimeEmbeds.j0] at H
   by_cases c9 : x25_2 = true
   ·subst c9
    have H1 : ((schismalaw11_known.f kj2).bind fun t1171 => (some t1171)) = some r := by rw [if_pos rfl] at H; exact H
    clear H
    have H := H1
    clear H1
    replace H := Option.bind_eq_some_iff.mp H
    obtain ⟨t1171, A100, H⟩ := H
    replace H : (some t1171) = some r := H
    have A10 := Aside0.mk A100
    clear A100
    obtain rfl := Option.some.inj H
    go_wp2_with (first | ((with_reducible refine gate_callee (f := 58) rfl ?_); refine goesL_ (some 26) rfl rfl Tryz.func58 (by kernel_rfl) rfl #[] rfl (by (try simp only [List.map_toArray, List.map_cons, List.map_nil]); first | done | rfl | (simp only [List.length_drop, List.length_take]; rfl)) ?_; (with_reducible refine (schismalaw11_known.calls kj2  t1171 _ ?side1 A10.out (by first | rfl | assumption)).mono ?_); (case side1 => refine TabW.below hT ?_; repeat (first | (with_reducible first | exact HB.out | apply below_alloc | apply pw_below_drewN | apply below_drew1 | refine below_set ?_ GE1169.out) | exact HB.out)); rintro e w11 ⟨rfl, hb⟩; refine ⟨_, rfl, ?_⟩; have n0_ := Aside0.mk (blk_below (g := gb1169) (o := .cells #[.int .u16 a0_0, .int .u16 a0_1] 88 (0, 0)) (by (with_reducible repeat (first | refine blk_drewN ?_ _ | refine blk_drew ?_ | refine blk_alloc ?_ _)); exact BK1169.out) hb); have n1_ := Aside0.mk (below_step (by repeat (first | (with_reducible first | exact HB.out | apply below_alloc | apply pw_below_drewN | apply below_drew1 | refine below_set ?_ GE1169.out) | exact HB.out)) hb); clear BK1169; clear HB; have BK1169 := n0_; have HB := n1_; clear n0_ n1_; (try clear hb); (try clear hb2); (try clear hk); (try clear hi)))
    go_ret
    exact ⟨by first | rfl | (simp [errW_none, errW_some] <;> rfl) | (simp [*, errW_none, errW_some] <;> rfl), by repeat (first | (with_reducible first | exact HB.out | apply below_alloc | apply pw_below_drewN | apply below_drew1 | refine below_set ?_ GE1169.out) | exact HB.out)⟩
   ·replace c9 := Bool.eq_false_iff.mpr c9
    subst c9
    have H1 : ((schismalaw11_Make.f kj2 a0_0).bind fun t1172 => ((schismalaw11_Make.f kj2 a0_1).bind fun t1175 => ((prime_Embed.f kj2 t1172 t1175 l1).bind fun bt1178 => ((prime_Restrict.f kj2 t1172 t1175 l1).bind fun bt1182 => ((schismalaw11_checkRow.f t1172 l1).bind fun t1186 => (if t1186 = 0 then (if 0 ≤ (t1175.length : Int) then (if ((t1175.length : Int) : Int).toNat ≤ 35184372088832 then (schismalaw11_PrimeEmbeds.l0 kj2 l1 t1172 t1175 bt1178.1 bt1178.2 bt1182.1 bt1182.2 (List.replicate ((t1175.length : Int) : Int).toNat 0) false l1 (l1.length : Int) 0) else (none)) else (none)) else (if bt1178.2 = t1186 then (if bt1182.2 = t1186 then (some ((wrap64 ((bt1178.1.length : Int) + (bt1182.1.length : Int))) == 0)) else (some false)) else (some false)))))))) = some r := by rw [if_neg (show ¬ (false = true) by decide)] at H; exact H
    clear H
    have H := H1
    clear H1
    replace H := Option.bind_eq_some_iff.mp H
    obtain ⟨t1172, A120, H⟩ := H
    replace H : ((schismalaw11_Make.f kj2 a0_1).bind fun t1175 => ((prime_Embed.f kj2 t1172 t1175 l1).bind fun bt1178 => ((prime_Restrict.f kj2 t1172 t1175 l1).bind fun bt1182 => ((schismalaw11_checkRow.f t1172 l1).bind fun t1186 => (if t1186 = 0 then (if 0 ≤ (t1175.length : Int) then (if ((t1175.length : Int) : Int).toNat ≤ 35184372088832 then (schismalaw11_PrimeEmbeds.l0 kj2 l1 t1172 t1175 bt1178.1 bt1178.2 bt1182.1 bt1182.2 (List.replicate ((t1175.length : Int) : Int).toNat 0) false l1 (l1.length : Int) 0) else (none)) else (none)) else (if bt1178.2 = t1186 then (if bt1182.2 = t1186 then (some ((wrap64 ((bt1178.1.length : Int) + (bt1182.1.length : Int))) == 0)) else (some false)) else (some false))))))) = some r := H
    have A12 := Aside0.mk A120
    clear A120
    replace H := Option.bind_eq_some_iff.mp H
    obtain ⟨t1175, A130, H⟩ := H
    replace H : ((prime_Embed.f kj2 t1172 t1175 l1).bind fun bt1178 => ((prime_Restrict.f kj2 t1172 t1175 l1).bind fun bt1182 => ((schismalaw11_checkRow.f t1172 l1).bind fun t1186 => (if t1186 = 0 then (if 0 ≤ (t1175.length : Int) then (if ((t1175.length : Int) : Int).toNat ≤ 35184372088832 then (schismalaw11_PrimeEmbeds.l0 kj2 l1 t1172 t1175 bt1178.1 bt1178.2 bt1182.1 bt1182.2 (List.replicate ((t1175.length : Int) : Int).toNat 0) false l1 (l1.length : Int) 0) else (none)) else (none)) else (if bt1178.2 = t1186 then (if bt1182.2 = t1186 then (some ((wrap64 ((bt1178.1.length : Int) + (bt1182.1.length : Int))) == 0)) else (some false)) else (some false)))))) = some r := H
    have A13 := Aside0.mk A130
    clear A130
    replace H := Option.bind_eq_some_iff.mp H
    obtain ⟨⟨t1178, t1179⟩, A140, H⟩ := H
    replace H : ((prime_Restrict.f kj2 t1172 t1175 l1).bind fun bt1182 => ((schismalaw11_checkRow.f t1172 l1).bind fun t1186 => (if t1186 = 0 then (if 0 ≤ (t1175.length : Int) then (if ((t1175.length : Int) : Int).toNat ≤ 35184372088832 then (schismalaw11_PrimeEmbeds.l0 kj2 l1 t1172 t1175 t1178 t1179 bt1182.1 bt1182.2 (List.replicate ((t1175.length : Int) : Int).toNat 0) false l1 (l1.length : Int) 0) else (none)) else (none)) else (if t1179 = t1186 then (if bt1182.2 = t1186 then (some ((wrap64 ((t1178.length : Int) + (bt1182.1.length : Int))) == 0)) else (some false)) else (some false))))) = some r := H
    have A14 := Aside0.mk A140
    clear A140
    replace H := Option.bind_eq_some_iff.mp H
    obtain ⟨⟨t1182, t1183⟩, A150, H⟩ := H
    replace H : ((schismalaw11_checkRow.f t1172 l1).bind fun t1186 => (if t1186 = 0 then (if 0 ≤ (t1175.length : Int) then (if ((t1175.length : Int) : Int).toNat ≤ 35184372088832 then (schismalaw11_PrimeEmbeds.l0 kj2 l1 t1172 t1175 t1178 t1179 t1182 t1183 (List.replicate ((t1175.length : Int) : Int).toNat 0) false l1 (l1.length : Int) 0) else (none)) else (none)) else (if t1179 = t1186 then (if t1183 = t1186 then (some ((wrap64 ((t1178.length : Int) + (t1182.length : Int))) == 0)) else (some false)) else (some false)))) = some r := H
    have A15 := Aside0.mk A150
    clear A150
    replace H := Option.bind_eq_some_iff.mp H
    obtain ⟨t1186, A160, H⟩ := H
    replace H : (if t1186 = 0 then (if 0 ≤ (t1175.length : Int) then (if ((t1175.length : Int) : Int).toNat ≤ 35184372088832 then (schismalaw11_PrimeEmbeds.l0 kj2 l1 t1172 t1175 t1178 t1179 t1182 t1183 (List.replicate ((t1175.length : Int) : Int).toNat 0) false l1 (l1.length : Int) 0) else (none)) else (none)) else (if t1179 = t1186 then (if t1183 = t1186 then (some ((wrap64 ((t1178.length : Int) + (t1182.length : Int))) == 0)) else (some false)) else (some false))) = some r := H
    have A16 := Aside0.mk A160
    clear A160
    by_cases c17 : t1186 = 0
    ·rw [if_pos c17] at H
     have c17b0 : (t1186 == 0) = true := beq_iff_eq.mpr c17
     have c17b1 : (t1186 != 0) = false := bne_eq_false_iff_eq.mpr c17
     clear c17
     by_cases c18 : 0 ≤ (t1175.length : Int)
     ·rw [if_pos c18] at H
      have c18b0 := eq_true c18
      have c18b1 : decide (0 ≤ (t1175.length : Int)) = true := decide_eq_true c18
      clear c18
      by_cases c19 : ((t1175.length : Int) : Int).toNat ≤ 35184372088832
      ·rw [if_pos c19] at H
       have c19b0 := eq_true c19
       have c19b1 : decide (((t1175.length : Int) : Int).toNat ≤ 35184372088832) = true := decide_eq_true c19
       clear c19
       obtain ⟨y1187, hy1187⟩ : ∃ y_ : List Int, y_ = (List.replicate ((t1175.length : Int) : Int).toNat 0) := ⟨_, rfl⟩
       replace H : (schismalaw11_PrimeEmbeds.l0 kj2 l1 t1172 t1175 t1178 t1179 t1182 t1183 y1187 false l1 (l1.length : Int) 0) = some r := by first | (rw [hy1187]; with_reducible exact H) | (have H2_ := (Option.bind_some _ _).symm.trans H; rw [hy1187]; with_reducible exact H2_) | (have H2_ := (Option.bind_some _ _).symm.trans H; with_reducible exact H2_) | with_reducible exact H | (rw [hy1187]; exact H) | exact H
       have Ny1187 := Aside0.mk hy1187
       clear hy1187
       have H' := Aside0.mk H
       clear H
       try go_wp2
       have n0_ := Aside0.mk (blk_drew BK1169.out)
       have n1_ := Aside0.mk (below_drew1 HB.out)
       clear BK1169
       clear HB
       have BK1169 := n0_
       have HB := n1_
       clear n0_ n1_
       refine start_ (n := 8) (S := fun w' => w'.cell? ⟨gb1169, 0, none⟩ = some (.int .u16 a0_0) ∧ w'.cell? ⟨gb1169, 1, none⟩ = some (.int .u16 a0_1)) (ds := []) #[false, false, false, false, false, false, false, false] (by kernel_rfl) rfl rfl ⟨(blk_cell BK1169.out 0).trans rfl, (blk_cell BK1169.out 1).trans rfl⟩ (fun hHeld => ?_); refine with_tabW schismalaw11_PrimeEmbeds.tab3 schismalaw11_PrimeEmbeds.bits3 (fun HT_ HW_ => ?_)
       generalize wc.drew = w20 at BK1169 HB hHeld ⊢
       refine pure_ (i := 0) (N := some 27) (v := ?_) (a' := ?_) #[true, false, false, false, false, false, false, false] rfl rfl (any_of HT_.out (by kernel_rfl)) (fun _ _ _ h => h) (Or.inl ⟨by rfl, ?_⟩) ?_ ?_
       rotate_left
       ·intro w'
        go_simp
        with_reducible rfl
       rotate_left
       ·simp only [Act.put, List.setIfInBounds_toArray, List.set_cons_zero, List.set_cons_succ, i64_w, i32_w]
        rfl
       refine pure_ (i := 3) (N := some 30) (v := ?_) (a' := ?_) #[true, false, false, true, false, false, false, false] rfl rfl (any_of HT_.out (by kernel_rfl)) (fun _ _ _ h => h) (Or.inl ⟨by rfl, ?_⟩) ?_ ?_
       rotate_left
       ·intro w'
        go_simp
        with_reducible rfl
       rotate_left
       ·simp only [Act.put, List.setIfInBounds_toArray, List.set_cons_zero, List.set_cons_succ, i64_w, i32_w]
        rfl
       refine take_ (i := 1) (N := some 28) (v := ?_) (a' := ?_) #[true, true, false, true, false, false, false, false] rfl rfl (take_ofW HT_.out HW_.out (by kernel_rfl)) (fun _ _ _ h => h) (Or.inl ⟨by rfl, ?_⟩) hHeld ?_ ?_
       rotate_left
       ·rintro w' ⟨s0, s1⟩
        go_simp
        with_reducible rfl
       rotate_left
       ·simp only [Act.put, List.setIfInBounds_toArray, List.set_cons_zero, List.set_cons_succ, i64_w, i32_w]
        rfl
       refine take_ (i := 4) (N := some 31) (v := ?_) (a' := ?_) #[true, true, false, true, true, false, false, false] rfl rfl (take_ofW HT_.out HW_.out (by kernel_rfl)) (fun _ _ _ h => h) (Or.inl ⟨by rfl, ?_⟩) hHeld ?_ ?_
       rotate_left
       ·rintro w' ⟨s0, s1⟩
        go_simp
        with_reducible rfl
       rotate_left
       ·simp only [Act.put, List.setIfInBounds_toArray, List.set_cons_zero, List.set_cons_succ, i64_w, i32_w]
        rfl
       refine one_ (i := 2) (N := some 29) #[true, true, true, true, true, false, false, false] rfl rfl (one_of HT_.out (by kernel_rfl)) (by decide) (fun K hK => ?_)
       refine goes_ Tryz.func66 (by kernel_rfl) rfl #[.int .u16 a0_0] (by rfl) rfl rfl (by (try simp only [List.map_toArray, List.map_cons, List.map_nil]); first | done | rfl | (simp only [List.length_drop, List.length_take]; rfl)) ?_
       with_reducible refine (schismalaw11_Make.calls kj2 a0_0 t1172 _ A12.out).mono ?_
       rintro e w21 ⟨v1173, rfl, ho0, hb⟩
       refine ⟨_, rfl, ?_⟩
       have n0_ := Aside0.mk (Kd.R_lower ho0 (below_size (by repeat (first | (with_reducible first | exact HB.out | apply below_alloc | apply pw_below_drewN | apply below_drew1 | refine below_set ?_ GE1169.out) | exact HB.out))))
       have n1_ := Aside0.mk (blk_below (g := gb1169) (o := .cells #[.int .u16 a0_0, .int .u16 a0_1] 88 (0, 0)) (by (with_reducible repeat (first | refine blk_drewN ?_ _ | refine blk_drew ?_ | refine blk_alloc ?_ _)); exact BK1169.out) hb)
       have n2_ := Aside0.mk (below_step (by repeat (first | (with_reducible first | exact HB.out | apply below_alloc | apply pw_below_drewN | apply below_drew1 | refine below_set ?_ GE1169.out) | exact HB.out)) hb)
       clear BK1169
       clear HB
       have HO1174 := n0_
       have BK1169 := n1_
       have HB := n2_
       clear n0_ n1_ n2_
       (try clear hb)
       (try clear hb2)
       (try clear hk)
       (try clear hi)
       (try clear ho0)
       refine hK.out _ _ ⟨(blk_cell BK1169.out 0).trans rfl, (blk_cell BK1169.out 1).trans rfl⟩ (fun hHeld => ?_)
       clear hK K
       refine norm_ (a' := ?_) ?_ ?_
       rotate_left
       ·show Act.put _ (some 29) _ = _
        simp only [Act.put, List.setIfInBounds_toArray, List.set_cons_zero, List.set_cons_succ, i64_w, i32_w]
        rfl
       refine one_ (i := 5) (N := some 32) #[true, true, true, true, true, true, false, false] rfl rfl (one_of HT_.out (by kernel_rfl)) (by decide) (fun K hK => ?_)
       refine goes_ Tryz.func66 (by kernel_rfl) rfl #[.int .u16 a0_1] (by rfl) rfl rfl (by (try simp only [List.map_toArray, List.map_cons, List.map_nil]); first | done | rfl | (simp only [List.length_drop, List.length_take]; rfl)) ?_
       with_reducible refine (schismalaw11_Make.calls kj2 a0_1 t1175 _ A13.out).mono ?_
       rintro e w22 ⟨v1176, rfl, ho0, hb⟩
       refine ⟨_, rfl, ?_⟩
       have n0_ := Aside0.mk (Kd.R_elder' (by (with_reducible repeat (first | apply Kd.R_alloc | apply Kd.R_drewN | apply Kd.R_drew)); exact HO1174.out) (Kd.R_base ho0) hb)
       have n1_ := Aside0.mk (Kd.R_lower (Kd.R_new' ho0 (Kd.R_lt (by (with_reducible repeat (first | apply Kd.R_alloc | apply Kd.R_drewN | apply Kd.R_drew)); exact HO1174.out))) (below_size (by repeat (first | (with_reducible first | exact HB.out | apply below_alloc | apply pw_below_drewN | apply below_drew1 | refine below_set ?_ GE1169.out) | exact HB.out))))
       have n2_ := Aside0.mk (blk_below (g := gb1169) (o := .cells #[.int .u16 a0_0, .int .u16 a0_1] 88 (0, 0)) (by (with_reducible repeat (first | refine blk_drewN ?_ _ | refine blk_drew ?_ | refine blk_alloc ?_ _)); exact BK1169.out) hb)
       have n3_ := Aside0.mk (below_step (by repeat (first | (with_reducible first | exact HB.out | apply below_alloc | apply pw_below_drewN | apply below_drew1 | refine below_set ?_ GE1169.out) | exact HB.out)) hb)
       clear HO1174
       clear BK1169
       clear HB
       have HO1174 := n0_
       have HO1177 := n1_
       have BK1169 := n2_
       have HB := n3_
       clear n0_ n1_ n2_ n3_
       (try clear hb)
       (try clear hb2)
       (try clear hk)
       (try clear hi)
       (try clear ho0)
       refine hK.out _ _ ⟨(blk_cell BK1169.out 0).trans rfl, (blk_cell BK1169.out 1).trans rfl⟩ (fun hHeld => ?_)
       clear hK K
       refine norm_ (a' := ?_) ?_ ?_
       rotate_left
       ·show Act.put _ (some 32) _ = _
        simp only [Act.put, List.setIfInBounds_toArray, List.set_cons_zero, List.set_cons_succ, i64_w, i32_w]
        rfl
       refine pure_ (i := 6) (N := some 5) (v := ?_) (a' := ?_) #[true, true, true, true, true, true, true, false] rfl rfl (any_of HT_.out (by kernel_rfl)) (fun _ _ _ h => h) (Or.inl ⟨by rfl, ?_⟩) ?_ ?_
       rotate_left
       ·intro w'
        go_simp
        with_reducible rfl
       rotate_left
       ·simp only [Act.put, List.setIfInBounds_toArray, List.set_cons_zero, List.set_cons_succ, i64_w, i32_w]
        rfl
       refine pure_ (i := 7) (N := some 6) (v := ?_) (a' := ?_) #[true, true, true, true, true, true, true, true] rfl rfl (any_of HT_.out (by kernel_rfl)) (fun _ _ _ h => h) (Or.inl ⟨by rfl, ?_⟩) ?_ ?_
       rotate_left
       ·intro w'
        go_simp
        with_reducible rfl
       rotate_left
       ·simp only [Act.put, List.setIfInBounds_toArray, List.set_cons_zero, List.set_cons_succ, i64_w, i32_w]
        rfl
       refine done_ (done_of HT_.out (by kernel_rfl)) ?_
       obtain ⟨Ao23, co23, eo23⟩ := Kd.R_slice HO1174.out
       subst eo23
       obtain ⟨Ao24, co24, eo24⟩ := Kd.R_slice HO1177.out
       subst eo24
       try go_wp2_with (first | ((with_reducible refine gate_callee (f := 67) rfl ?_); refine goesL_ (some 37) rfl rfl Tryz.func67 (by kernel_rfl) rfl #[.slice Ao23 t1172.length co23, .slice Ao24 t1175.length co24, .slice A1 l1.length c1] rfl (by (try simp only [List.map_toArray, List.map_cons, List.map_nil]); first | done | rfl | (simp only [List.length_drop, List.length_take]; rfl)) ?_; (with_reducible refine (prime_Embed.calls kj2 _ _ t1172 _ _ t1175 _ _ l1 t1178 t1179 _ ?side1 ?side2 ?side3 ?side4 ?side5 ?side6 A14.out).mono ?_); (case side1 => repeat (first | exact (Kd.R_reads' HO1174.out).2.2 | (with_reducible refine Kd.C_alloc ?_ _) | (with_reducible refine Kd.C_drewN ?_ _) | (with_reducible refine Kd.C_drew ?_))); (case side2 => exact (Kd.R_reads' HO1174.out).2.1); (case side3 => repeat (first | exact (Kd.R_reads' HO1177.out).2.2 | (with_reducible refine Kd.C_alloc ?_ _) | (with_reducible refine Kd.C_drewN ?_ _) | (with_reducible refine Kd.C_drew ?_))); (case side4 => exact (Kd.R_reads' HO1177.out).2.1); (case side5 => repeat (first | exact (Kd.C_below HR1.out HB.out) | (with_reducible refine Kd.C_alloc ?_ _) | (with_reducible refine Kd.C_drewN ?_ _) | (with_reducible refine Kd.C_drew ?_))); (case side6 => exact HC1.out); rintro e w25 ⟨v1180, rfl, ho0, hb⟩; refine ⟨_, rfl, ?_⟩; have n0_ := Aside0.mk (Kd.R_elder' (by (with_reducible repeat (first | apply Kd.R_alloc | apply Kd.R_drewN | apply Kd.R_drew)); exact HO1174.out) (Kd.R_base ho0) hb); have n1_ := Aside0.mk (Kd.R_elder' (by (with_reducible repeat (first | apply Kd.R_alloc | apply Kd.R_drewN | apply Kd.R_drew)); exact HO1177.out) (Kd.R_base ho0) hb); have n2_ := Aside0.mk (Kd.R_lower (Kd.R_new' (Kd.R_new' ho0 (Kd.R_lt (by (with_reducible repeat (first | apply Kd.R_alloc | apply Kd.R_drewN | apply Kd.R_drew)); exact HO1174.out))) (Kd.R_lt (by (with_reducible repeat (first | apply Kd.R_alloc | apply Kd.R_drewN | apply Kd.R_drew)); exact HO1177.out))) (below_size (by repeat (first | (with_reducible first | exact HB.out | apply below_alloc | apply pw_below_drewN | apply below_drew1 | refine below_set ?_ GE1169.out) | exact HB.out)))); have n3_ := Aside0.mk (blk_below (g := gb1169) (o := .cells #[.int .u16 a0_0, .int .u16 a0_1] 88 (0, 0)) (by (with_reducible repeat (first | refine blk_drewN ?_ _ | refine blk_drew ?_ | refine blk_alloc ?_ _)); exact BK1169.out) hb); have n4_ := Aside0.mk (below_step (by repeat (first | (with_reducible first | exact HB.out | apply below_alloc | apply pw_below_drewN | apply below_drew1 | refine below_set ?_ GE1169.out) | exact HB.out)) hb); clear HO1174; clear HO1177; clear BK1169; clear HB; have HO1174 := n0_; have HO1177 := n1_; have HO1181 := n2_; have BK1169 := n3_; have HB := n4_; clear n0_ n1_ n2_ n3_ n4_; (try clear hb); (try clear hb2); (try clear hk); (try clear hi); (try clear ho0)) | ((with_reducible refine gate_callee (f := 68) rfl ?_); refine goesL_ (some 44) rfl rfl Tryz.func68 (by kernel_rfl) rfl #[.slice Ao23 t1172.length co23, .slice Ao24 t1175.length co24, .slice A1 l1.length c1] rfl (by (try simp only [List.map_toArray, List.map_cons, List.map_nil]); first | done | rfl | (simp only [List.length_drop, List.length_take]; rfl)) ?_; (with_reducible refine (prime_Restrict.calls kj2 _ _ t1172 _ _ t1175 _ _ l1 t1182 t1183 _ ?side1 ?side2 ?side3 ?side4 ?side5 ?side6 A15.out).mono ?_); (case side1 => repeat (first | exact (Kd.R_reads' HO1174.out).2.2 | (with_reducible refine Kd.C_alloc ?_ _) | (with_reducible refine Kd.C_drewN ?_ _) | (with_reducible refine Kd.C_drew ?_))); (case side2 => exact (Kd.R_reads' HO1174.out).2.1); (case side3 => repeat (first | exact (Kd.R_reads' HO1177.out).2.2 | (with_reducible refine Kd.C_alloc ?_ _) | (with_reducible refine Kd.C_drewN ?_ _) | (with_reducible refine Kd.C_drew ?_))); (case side4 => exact (Kd.R_reads' HO1177.out).2.1); (case side5 => repeat (first | exact (Kd.C_below HR1.out HB.out) | (with_reducible refine Kd.C_alloc ?_ _) | (with_reducible refine Kd.C_drewN ?_ _) | (with_reducible refine Kd.C_drew ?_))); (case side6 => exact HC1.out); rintro e w26 ⟨v1184, rfl, ho0, hb⟩; refine ⟨_, rfl, ?_⟩; have n0_ := Aside0.mk (Kd.R_elder' (by (with_reducible repeat (first | apply Kd.R_alloc | apply Kd.R_drewN | apply Kd.R_drew)); exact HO1174.out) (Kd.R_base ho0) hb); have n1_ := Aside0.mk (Kd.R_elder' (by (with_reducible repeat (first | apply Kd.R_alloc | apply Kd.R_drewN | apply Kd.R_drew)); exact HO1177.out) (Kd.R_base ho0) hb); have n2_ := Aside0.mk (Kd.R_elder' (by (with_reducible repeat (first | apply Kd.R_alloc | apply Kd.R_drewN | apply Kd.R_drew)); exact HO1181.out) (Kd.R_base ho0) hb); have n3_ := Aside0.mk (Kd.R_lower (Kd.R_new' (Kd.R_new' (Kd.R_new' ho0 (Kd.R_lt (by (with_reducible repeat (first | apply Kd.R_alloc | apply Kd.R_drewN | apply Kd.R_drew)); exact HO1174.out))) (Kd.R_lt (by (with_reducible repeat (first | apply Kd.R_alloc | apply Kd.R_drewN | apply Kd.R_drew)); exact HO1177.out))) (Kd.R_lt (by (with_reducible repeat (first | apply Kd.R_alloc | apply Kd.R_drewN | apply Kd.R_drew)); exact HO1181.out))) (below_size (by repeat (first | (with_reducible first | exact HB.out | apply below_alloc | apply pw_below_drewN | apply below_drew1 | refine below_set ?_ GE1169.out) | exact HB.out)))); have n4_ := Aside0.mk (blk_below (g := gb1169) (o := .cells #[.int .u16 a0_0, .int .u16 a0_1] 88 (0, 0)) (by (with_reducible repeat (first | refine blk_drewN ?_ _ | refine blk_drew ?_ | refine blk_alloc ?_ _)); exact BK1169.out) hb); have n5_ := Aside0.mk (below_step (by repeat (first | (with_reducible first | exact HB.out | apply below_alloc | apply pw_below_drewN | apply below_drew1 | refine below_set ?_ GE1169.out) | exact HB.out)) hb); clear HO1174; clear HO1177; clear HO1181; clear BK1169; clear HB; have HO1174 := n0_; have HO1177 := n1_; have HO1181 := n2_; have HO1185 := n3_; have BK1169 := n4_; have HB := n5_; clear n0_ n1_ n2_ n3_ n4_ n5_; (try clear hb); (try clear hb2); (try clear hk); (try clear hi); (try clear ho0)) | ((with_reducible refine gate_callee (f := 69) rfl ?_); refine goesL_ (some 49) rfl rfl Tryz.func69 (by kernel_rfl) rfl #[.slice Ao23 t1172.length co23, .slice A1 l1.length c1] rfl (by (try simp only [List.map_toArray, List.map_cons, List.map_nil]); first | done | rfl | (simp only [List.length_drop, List.length_take]; rfl)) ?_; (with_reducible refine (schismalaw11_checkRow.calls _ _ t1172 _ _ l1 t1186 _ ?side1 ?side2 ?side3 ?side4 A16.out).mono ?_); (case side1 => repeat (first | exact (Kd.R_reads' HO1174.out).2.2 | (with_reducible refine Kd.C_alloc ?_ _) | (with_reducible refine Kd.C_drewN ?_ _) | (with_reducible refine Kd.C_drew ?_))); (case side2 => exact (Kd.R_reads' HO1174.out).2.1); (case side3 => repeat (first | exact (Kd.C_below HR1.out HB.out) | (with_reducible refine Kd.C_alloc ?_ _) | (with_reducible refine Kd.C_drewN ?_ _) | (with_reducible refine Kd.C_drew ?_))); (case side4 => exact HC1.out); rintro e w27 ⟨rfl, hb⟩; refine ⟨_, rfl, ?_⟩; have n0_ := Aside0.mk (Kd.R_below (by (with_reducible repeat (first | apply Kd.R_alloc | apply Kd.R_drewN | apply Kd.R_drew)); exact HO1174.out) hb); have n1_ := Aside0.mk (Kd.R_below (by (with_reducible repeat (first | apply Kd.R_alloc | apply Kd.R_drewN | apply Kd.R_drew)); exact HO1177.out) hb); have n2_ := Aside0.mk (Kd.R_below (by (with_reducible repeat (first | apply Kd.R_alloc | apply Kd.R_drewN | apply Kd.R_drew)); exact HO1181.out) hb); have n3_ := Aside0.mk (Kd.R_below (by (with_reducible repeat (first | apply Kd.R_alloc | apply Kd.R_drewN | apply Kd.R_drew)); exact HO1185.out) hb); have n4_ := Aside0.mk (blk_below (g := gb1169) (o := .cells #[.int .u16 a0_0, .int .u16 a0_1] 88 (0, 0)) (by (with_reducible repeat (first | refine blk_drewN ?_ _ | refine blk_drew ?_ | refine blk_alloc ?_ _)); exact BK1169.out) hb); have n5_ := Aside0.mk (below_step (by repeat (first | (with_reducible first | exact HB.out | apply below_alloc | apply pw_below_drewN | apply below_drew1 | refine below_set ?_ GE1169.out) | exact HB.out)) hb); clear HO1174; clear HO1177; clear HO1181; clear HO1185; clear BK1169; clear HB; have HO1174 := n0_; have HO1177 := n1_; have HO1181 := n2_; have HO1185 := n3_; have BK1169 := n4_; have HB := n5_; clear n0_ n1_ n2_ n3_ n4_ n5_; (try clear hb); (try clear hb2); (try clear hk); (try clear hi)) | ((with_reducible refine gate_dst (N := 70) rfl ?_); (try (refine gate_guard (by rfl) ?_; dsimp only)); refine Kd.R_make (Kd.int .i64) _ 3 rfl (N := 70) rfl 24 _ _ rfl (t1175.length : Int) rfl rfl Tryz.underlying24 (.int .i64 0) 8 info3 rfl (by decide) (by omega) 0 (ok := fun _ => True) (okp := fun _ => True) rfl (fun _ hk => hk) trivial (of_decide_eq_true (by first | (with_reducible assumption) | assumption)) (Nat.le_trans (Nat.mul_le_mul_right _ (of_decide_eq_true (by first | (with_reducible assumption) | assumption) : (t1175.length : Int).toNat ≤ 35184372088832)) (by omega)) (Below.refl _ _) (Nat.le_refl _) ?_; intro v1188 w28 ho29 hb hg_ hnew_; clear hg_ hnew_; (first | rw [← Ny1187.out] at ho29 | (simp only [Int.reduceToNat] at ho29; rw [← Ny1187.out] at ho29)); have n0_ := Aside0.mk (Kd.R_elder' (by (with_reducible repeat (first | apply Kd.R_alloc | apply Kd.R_drewN | apply Kd.R_drew)); exact HO1174.out) (Kd.R_base ho29) hb); have n1_ := Aside0.mk (Kd.R_elder' (by (with_reducible repeat (first | apply Kd.R_alloc | apply Kd.R_drewN | apply Kd.R_drew)); exact HO1177.out) (Kd.R_base ho29) hb); have n2_ := Aside0.mk (Kd.R_elder' (by (with_reducible repeat (first | apply Kd.R_alloc | apply Kd.R_drewN | apply Kd.R_drew)); exact HO1181.out) (Kd.R_base ho29) hb); have n3_ := Aside0.mk (Kd.R_elder' (by (with_reducible repeat (first | apply Kd.R_alloc | apply Kd.R_drewN | apply Kd.R_drew)); exact HO1185.out) (Kd.R_base ho29) hb); have n4_ := Aside0.mk (Kd.R_lower (Kd.R_new' (Kd.R_new' (Kd.R_new' (Kd.R_new' ho29 (Kd.R_lt (by (with_reducible repeat (first | apply Kd.R_alloc | apply Kd.R_drewN | apply Kd.R_drew)); exact HO1174.out))) (Kd.R_lt (by (with_reducible repeat (first | apply Kd.R_alloc | apply Kd.R_drewN | apply Kd.R_drew)); exact HO1177.out))) (Kd.R_lt (by (with_reducible repeat (first | apply Kd.R_alloc | apply Kd.R_drewN | apply Kd.R_drew)); exact HO1181.out))) (Kd.R_lt (by (with_reducible repeat (first | apply Kd.R_alloc | apply Kd.R_drewN | apply Kd.R_drew)); exact HO1185.out))) (below_size (by repeat (first | (with_reducible first | exact HB.out | apply below_alloc | apply pw_below_drewN | apply below_drew1 | refine below_set ?_ GE1169.out) | exact HB.out)))); have n5_ := Aside0.mk (blk_below (g := gb1169) (o := .cells #[.int .u16 a0_0, .int .u16 a0_1] 88 (0, 0)) (by (with_reducible repeat (first | refine blk_drewN ?_ _ | refine blk_drew ?_ | refine blk_alloc ?_ _)); exact BK1169.out) hb); have n6_ := Aside0.mk (below_step (by repeat (first | (with_reducible first | exact HB.out | apply below_alloc | apply pw_below_drewN | apply below_drew1 | refine below_set ?_ GE1169.out) | exact HB.out)) hb); clear HO1174; clear HO1177; clear HO1181; clear HO1185; clear BK1169; clear HB; have HO1174 := n0_; have HO1177 := n1_; have HO1181 := n2_; have HO1185 := n3_; have HO1189 := n4_; have BK1169 := n5_; have HB := n6_; clear n0_ n1_ n2_ n3_ n4_ n5_ n6_; clear hb ho29))
       go_loopg [13, 73] kj2 (fun kq v13 v73 w' => ∃ (x12_2 : List Int) (x13_2 : Bool) (x73_2 : Int), v13 = .bool x13_2 ∧ v73 = .int .i64 x73_2 ∧ Aside0 (schismalaw11_PrimeEmbeds.l0 kq l1 t1172 t1175 t1178 t1179 t1182 t1183 x12_2 x13_2 l1 (l1.length : Int) x73_2 = some r) ∧ Aside0 (kq ≤ kj2) ∧ Aside0 (Kd.R (Kd.int .i64) 3 w' w.heap.size (fun k_ => some k_ ≠ ((.slice Ao24 t1175.length co24) : Value).ownBlock ∧ some k_ ≠ (v1180 : Value).ownBlock ∧ some k_ ≠ (v1184 : Value).ownBlock ∧ some k_ ≠ (v1188 : Value).ownBlock) (.slice Ao23 t1172.length co23) t1172) ∧ Aside0 (Kd.R (Kd.int .i64) 3 w' w.heap.size (fun k_ => some k_ ≠ ((.slice Ao23 t1172.length co23) : Value).ownBlock ∧ some k_ ≠ (v1180 : Value).ownBlock ∧ some k_ ≠ (v1184 : Value).ownBlock ∧ some k_ ≠ (v1188 : Value).ownBlock) (.slice Ao24 t1175.length co24) t1175) ∧ Aside0 (Kd.R (Kd.int .i64) 3 w' w.heap.size (fun k_ => some k_ ≠ ((.slice Ao23 t1172.length co23) : Value).ownBlock ∧ some k_ ≠ ((.slice Ao24 t1175.length co24) : Value).ownBlock ∧ some k_ ≠ (v1184 : Value).ownBlock ∧ some k_ ≠ (v1188 : Value).ownBlock) v1180 t1178) ∧ Aside0 (Kd.R (Kd.int .i64) 3 w' w.heap.size (fun k_ => some k_ ≠ ((.slice Ao23 t1172.length co23) : Value).ownBlock ∧ some k_ ≠ ((.slice Ao24 t1175.length co24) : Value).ownBlock ∧ some k_ ≠ (v1180 : Value).ownBlock ∧ some k_ ≠ (v1188 : Value).ownBlock) v1184 t1182) ∧ Aside0 (Kd.R (Kd.int .i64) 3 w' w.heap.size (fun k_ => some k_ ≠ ((.slice Ao23 t1172.length co23) : Value).ownBlock ∧ some k_ ≠ ((.slice Ao24 t1175.length co24) : Value).ownBlock ∧ some k_ ≠ (v1180 : Value).ownBlock ∧ some k_ ≠ (v1184 : Value).ownBlock) v1188 x12_2) ∧ Aside0 (w'.heap[gb1169]? = some (.cells #[.int .u16 a0_0, .int .u16 a0_1] 88 (0, 0))) ∧ Aside0 (Below w.heap.size w w'))
       case atStart => exact ⟨(y1187), (false), (0), (by first | rfl | (simp; done) | (simp [*]; done)), (by first | rfl | (simp; done) | (simp [*]; done)), H', ⟨Nat.le_refl _⟩, ⟨by (with_reducible repeat (first | apply Kd.R_alloc | apply Kd.R_drewN | apply Kd.R_drew)); exact Kd.R_mono HO1174.out (fun _ hk => ⟨hk.1.1.1.2, ⟨hk.1.1.2, ⟨hk.1.2, hk.2⟩⟩⟩)⟩, ⟨by (with_reducible repeat (first | apply Kd.R_alloc | apply Kd.R_drewN | apply Kd.R_drew)); exact Kd.R_mono HO1177.out (fun _ hk => ⟨hk.1.1.1.2, ⟨hk.1.1.2, ⟨hk.1.2, hk.2⟩⟩⟩)⟩, ⟨by (with_reducible repeat (first | apply Kd.R_alloc | apply Kd.R_drewN | apply Kd.R_drew)); exact Kd.R_mono HO1181.out (fun _ hk => ⟨hk.1.1.1.2, ⟨hk.1.1.2, ⟨hk.1.2, hk.2⟩⟩⟩)⟩, ⟨by (with_reducible repeat (first | apply Kd.R_alloc | apply Kd.R_drewN | apply Kd.R_drew)); exact Kd.R_mono HO1185.out (fun _ hk => ⟨hk.1.1.1.2, ⟨hk.1.1.2, ⟨hk.1.2, hk.2⟩⟩⟩)⟩, ⟨by (with_reducible repeat (first | apply Kd.R_alloc | apply Kd.R_drewN | apply Kd.R_drew)); exact Kd.R_mono HO1189.out (fun _ hk => ⟨hk.1.1.1.2, ⟨hk.1.1.2, ⟨hk.1.2, hk.2⟩⟩⟩)⟩, ⟨by (with_reducible repeat (first | refine blk_drewN ?_ _ | refine blk_drew ?_ | refine blk_alloc ?_ _)); exact BK1169.out⟩, ⟨by repeat (first | (with_reducible first | exact HB.out | apply below_alloc | apply pw_below_drewN | apply below_drew1 | refine below_set ?_ GE1169.out) | exact HB.out)⟩⟩
       case round =>
        clear H'
        try clear c1
        try clear p2
        try clear c5
        try clear c6
        try clear p6
        try clear c9
        try clear c13
        try clear c17
        try clear c17b0
        try clear c17b1
        try clear c18
        try clear c18b0
        try clear c18b1
        try clear c19
        try clear c19b0
        try clear c19b1
        try clear p2
        obtain ⟨x12_2, x13_2, x73_2, rfl, rfl, HA, HK2, HO_5, HO_6, HO_7, HO_9, HO_12, BK1169, HB⟩ := hrel
        cases gk with
        | zero => exact absurd HA.out (by simp [schismalaw11_PrimeEmbeds.l0])
        | succ k2 =>
         have H := HA.out
         clear HA
         simp only [schismalaw11_PrimeEmbeds.l0] at H
         by_cases c30 : x73_2 < (l1.length : Int)
         ·rw [if_pos c30] at H
          have c30b0 : decide (x73_2 < (l1.length : Int)) = true := decide_eq_true c30
          clear c30
          by_cases c31 : 0 ≤ x73_2
          ·rw [if_pos c31] at H
           have c31b0 : decide (0 ≤ x73_2) = true := decide_eq_true c31
           clear c31
           by_cases c32 : x73_2 < (l1.length : Int)
           ·rw [if_pos c32] at H
            have c32b0 : decide (x73_2 < (l1.length : Int)) = true := decide_eq_true c32
            clear c32
            by_cases c33 : x73_2 < (t1172.length : Int)
            ·rw [if_pos c33] at H
             have c33b0 : decide (x73_2 < (t1172.length : Int)) = true := decide_eq_true c33
             clear c33
             replace H := Option.bind_eq_some_iff.mp H
             obtain ⟨t1192, A340, H⟩ := H
             replace H : (if t1192 ≥ 0 then (if 0 ≤ t1192 then (if t1192 < (x12_2.length : Int) then (schismalaw11_PrimeEmbeds.l0 k2 l1 t1172 t1175 t1178 t1179 t1182 t1183 (x12_2.set (t1192 : Int).toNat (rd l1 x73_2)) x13_2 l1 (l1.length : Int) (wrap64 (x73_2 + 1))) else (none)) else (none)) else (if x13_2 = true then (schismalaw11_PrimeEmbeds.l0 k2 l1 t1172 t1175 t1178 t1179 t1182 t1183 x12_2 true l1 (l1.length : Int) (wrap64 (x73_2 + 1))) else (schismalaw11_PrimeEmbeds.l0 k2 l1 t1172 t1175 t1178 t1179 t1182 t1183 x12_2 ((rd l1 x73_2) != 0) l1 (l1.length : Int) (wrap64 (x73_2 + 1))))) = some r := H
             have A34 := Aside0.mk A340
             clear A340
             by_cases c35 : t1192 ≥ 0
             ·rw [if_pos c35] at H
              have c35b0 : decide (0 ≤ t1192) = true := decide_eq_true c35
              clear c35
              by_cases c36 : 0 ≤ t1192
              ·rw [if_pos c36] at H
               have c36b0 : decide (0 ≤ t1192) = true := decide_eq_true c36
               clear c36
               by_cases c37 : t1192 < (x12_2.length : Int)
               ·rw [if_pos c37] at H
                have c37b0 : decide (t1192 < (x12_2.length : Int)) = true := decide_eq_true c37
                clear c37
                obtain ⟨y1193, hy1193⟩ : ∃ y_ : List Int, y_ = (x12_2.set (t1192 : Int).toNat (rd l1 x73_2)) := ⟨_, rfl⟩
                replace H : (schismalaw11_PrimeEmbeds.l0 k2 l1 t1172 t1175 t1178 t1179 t1182 t1183 y1193 x13_2 l1 (l1.length : Int) (wrap64 (x73_2 + 1))) = some r := by first | (rw [hy1193]; with_reducible exact H) | (have H2_ := (Option.bind_some _ _).symm.trans H; rw [hy1193]; with_reducible exact H2_) | (have H2_ := (Option.bind_some _ _).symm.trans H; with_reducible exact H2_) | with_reducible exact H | (rw [hy1193]; exact H) | exact H
                have Ny1193 := Aside0.mk hy1193
                clear hy1193
                have H' := Aside0.mk H
                clear H
                have p1190 : 0 ≤ (x73_2 : Int) := of_decide_eq_true (by first | (with_reducible assumption) | assumption)
                have q1190 : x73_2 < (l1.length : Int) := of_decide_eq_true (by first | (with_reducible assumption) | assumption)
                obtain ⟨ad1190, e1190, hx1190_0⟩ := Kd.at_int HR1.out x73_2 p1190 q1190
                cases e1190
                replace hx1190_0 := (HB.out.cell (World.block_lt_of_cell? w _ hx1190_0)).trans hx1190_0
                replace p1190 := eq_true p1190
                replace q1190 := eq_true q1190
                have p1191 : 0 ≤ (x73_2 : Int) := of_decide_eq_true (by first | (with_reducible assumption) | assumption)
                have q1191 : x73_2 < (t1172.length : Int) := of_decide_eq_true (by first | (with_reducible assumption) | assumption)
                obtain ⟨ad1191, e1191, hx1191_0⟩ := Kd.at_int (Kd.R_reads' HO_5.out).2.2 x73_2 p1191 q1191
                cases e1191
                replace p1191 := eq_true p1191
                replace q1191 := eq_true q1191
                go_wp2_with (first | ((with_reducible refine gate_callee (f := 70) rfl ?_); refine goesL_ (some 83) rfl rfl Tryz.func70 (by kernel_rfl) rfl #[.slice Ao24 t1175.length co24, .int .i64 (rd t1172 x73_2)] rfl (by (try simp only [List.map_toArray, List.map_cons, List.map_nil]); first | done | rfl | (simp only [List.length_drop, List.length_take]; rfl)) ?_; (with_reducible refine (api_Primes_int_70.calls k2 _ _ t1175 (rd t1172 x73_2) t1192 _ ?side1 ?side2 A34.out).mono ?_); (case side1 => repeat (first | exact (Kd.R_reads' HO_6.out).2.2 | (with_reducible refine Kd.C_alloc ?_ _) | (with_reducible refine Kd.C_drewN ?_ _) | (with_reducible refine Kd.C_drew ?_))); (case side2 => exact (Kd.R_reads' HO_6.out).2.1); rintro e w' ⟨rfl, ⟨nd, rfl⟩⟩; refine ⟨_, rfl, ?_⟩; (try (rw [drewN_self wr]; generalize hq_ : World.drewN wr _ = wr; have n0_ : Aside0 (Kd.R (Kd.int .i64) 3 wr w.heap.size (fun k_ => some k_ ≠ (.slice (some ad1191) t1172.length co23 : Value).ownBlock ∧ some k_ ≠ (.slice Ao24 t1175.length co24 : Value).ownBlock ∧ some k_ ≠ (v1180 : Value).ownBlock ∧ some k_ ≠ (v1184 : Value).ownBlock) v1188 x12_2) := ⟨by rw [← hq_]; exact (by (with_reducible repeat (first | apply Kd.R_alloc | apply Kd.R_drewN | apply Kd.R_drew)); exact HO_12.out)⟩; have n1_ : Aside0 (Kd.R (Kd.int .i64) 3 wr w.heap.size (fun k_ => some k_ ≠ (v1188 : Value).ownBlock ∧ some k_ ≠ (.slice Ao24 t1175.length co24 : Value).ownBlock ∧ some k_ ≠ (v1180 : Value).ownBlock ∧ some k_ ≠ (v1184 : Value).ownBlock) (.slice (some ad1191) t1172.length co23) t1172) := ⟨by rw [← hq_]; exact (by (with_reducible repeat (first | apply Kd.R_alloc | apply Kd.R_drewN | apply Kd.R_drew)); exact Kd.R_mono HO_5.out (fun _ hk => ⟨hk.2.2.2, ⟨hk.1, ⟨hk.2.1, hk.2.2.1⟩⟩⟩))⟩; have n2_ : Aside0 (Kd.R (Kd.int .i64) 3 wr w.heap.size (fun k_ => some k_ ≠ (v1188 : Value).ownBlock ∧ some k_ ≠ (.slice (some ad1191) t1172.length co23 : Value).ownBlock ∧ some k_ ≠ (v1180 : Value).ownBlock ∧ some k_ ≠ (v1184 : Value).ownBlock) (.slice Ao24 t1175.length co24) t1175) := ⟨by rw [← hq_]; exact (by (with_reducible repeat (first | apply Kd.R_alloc | apply Kd.R_drewN | apply Kd.R_drew)); exact Kd.R_mono HO_6.out (fun _ hk => ⟨hk.2.2.2, ⟨hk.1, ⟨hk.2.1, hk.2.2.1⟩⟩⟩))⟩; have n3_ : Aside0 (Kd.R (Kd.int .i64) 3 wr w.heap.size (fun k_ => some k_ ≠ (v1188 : Value).ownBlock ∧ some k_ ≠ (.slice (some ad1191) t1172.length co23 : Value).ownBlock ∧ some k_ ≠ (.slice Ao24 t1175.length co24 : Value).ownBlock ∧ some k_ ≠ (v1184 : Value).ownBlock) v1180 t1178) := ⟨by rw [← hq_]; exact (by (with_reducible repeat (first | apply Kd.R_alloc | apply Kd.R_drewN | apply Kd.R_drew)); exact Kd.R_mono HO_7.out (fun _ hk => ⟨hk.2.2.2, ⟨hk.1, ⟨hk.2.1, hk.2.2.1⟩⟩⟩))⟩; have n4_ : Aside0 (Kd.R (Kd.int .i64) 3 wr w.heap.size (fun k_ => some k_ ≠ (v1188 : Value).ownBlock ∧ some k_ ≠ (.slice (some ad1191) t1172.length co23 : Value).ownBlock ∧ some k_ ≠ (.slice Ao24 t1175.length co24 : Value).ownBlock ∧ some k_ ≠ (v1180 : Value).ownBlock) v1184 t1182) := ⟨by rw [← hq_]; exact (by (with_reducible repeat (first | apply Kd.R_alloc | apply Kd.R_drewN | apply Kd.R_drew)); exact Kd.R_mono HO_9.out (fun _ hk => ⟨hk.2.2.2, ⟨hk.1, ⟨hk.2.1, hk.2.2.1⟩⟩⟩))⟩; have n5_ : Aside0 (wr.heap[gb1169]? = some (.cells #[.int .u16 a0_0, .int .u16 a0_1] 88 (0, 0))) := ⟨by rw [← hq_]; exact (by (with_reducible repeat (first | refine blk_drewN ?_ _ | refine blk_drew ?_ | refine blk_alloc ?_ _)); exact BK1169.out)⟩; have n6_ : Aside0 (Below w.heap.size w wr) := ⟨by rw [← hq_]; exact (by repeat (first | (with_reducible first | exact HB.out | apply below_alloc | apply pw_below_drewN | apply below_drew1 | refine below_set ?_ GE1169.out) | exact HB.out))⟩; clear HO_12 HO_5 HO_6 HO_7 HO_9 BK1169 HB hq_; have HO_12 := n0_; have HO_5 := n1_; have HO_6 := n2_; have HO_7 := n3_; have HO_9 := n4_; have BK1169 := n5_; have HB := n6_; clear n0_ n1_ n2_ n3_ n4_ n5_ n6_)); have p38 : 0 ≤ (t1192 : Int) := of_decide_eq_true (by first | (with_reducible assumption) | assumption); have q38 : (t1192 : Int) < ((x12_2.length : Int) : Int) := of_decide_eq_true (by first | (with_reducible assumption) | assumption); obtain ⟨go38, co38, eo38, gb38, gl38, cl38, HG38⟩ := Kd.R_form HO_12.out (by omega); (first | cases eo38 | (injection eo38 with ea_ en_ ec_; (first | subst ea_ | (injection ea_ with ea_; subst ea_)); subst ec_; clear en_)); have GB38 := Aside0.mk gb38; have GG38 := Aside0.mk HG38; clear gb38 gl38 HG38; obtain ⟨hx38_0, hf38_0⟩ := Kd.R_celln 0 HO_12.out (t1192 : Int) p38 q38; replace p38 := eq_true p38; replace q38 := eq_true q38; obtain ⟨hy39_, hz39_⟩ := Kd.R_celln 0 HO_12.out (t1192 : Int) (of_decide_eq_true (by first | (with_reducible assumption) | assumption)) (of_decide_eq_true (by first | (with_reducible assumption) | assumption)); have HP39 := Kd.R_putg HO_12.out (t1192 : Int) (rd l1 x73_2)) | ((with_reducible refine gate_store (t := 3) (p := 89) rfl ?_); refine store_event (t := 3) (p := 89) (v := ?vo_w40) (w1 := (wr.setCell ⟨go38, (t1192 : Int).toNat, none⟩ (.int .i64 (rd l1 x73_2)))) ?hg ?ho ?hn ?hr ?_; (case ho => rfl); (case hg => rfl); (case hn => rfl); (case hr => first | (go_simp; done) | (go_simp; rfl)); intro w40 hw; have hg : wr.grownBy w40 (some go38) := (by rw [hw]; exact HP39.2); have hp_ : Kd.R (Kd.int .i64) 3 w40 w.heap.size (fun k_ => some k_ ≠ (.slice (some ad1191) t1172.length co23 : Value).ownBlock ∧ some k_ ≠ (.slice Ao24 t1175.length co24 : Value).ownBlock ∧ some k_ ≠ (v1180 : Value).ownBlock ∧ some k_ ≠ (v1184 : Value).ownBlock) (.slice (some ⟨go38, 0, none⟩) x12_2.length co38) y1193 := (by rw [hw, Ny1193.out]; exact HP39.1); clear HP39; have n0_ := Aside0.mk (Kd.R_after (v := (.slice (some ⟨go38, 0, none⟩) x12_2.length co38)) (v1 := (.slice (some ⟨go38, 0, none⟩) x12_2.length co38)) (ok := (fun k_ => some k_ ≠ (.slice Ao24 t1175.length co24 : Value).ownBlock ∧ some k_ ≠ (v1180 : Value).ownBlock ∧ some k_ ≠ (v1184 : Value).ownBlock)) (by (with_reducible repeat (first | apply Kd.R_alloc | apply Kd.R_drewN | apply Kd.R_drew)); exact Kd.R_mono HO_5.out (fun _ hk => by first | exact ⟨⟨hk.1, ⟨hk.2.1, hk.2.2.1⟩⟩, hk.2.2.2⟩ | exact ⟨⟨hk.2.1, ⟨hk.2.2.1, hk.2.2.2⟩⟩, hk.1⟩)) hg (.inl rfl)); have n1_ := Aside0.mk (Kd.R_after (v := (.slice (some ⟨go38, 0, none⟩) x12_2.length co38)) (v1 := (.slice (some ⟨go38, 0, none⟩) x12_2.length co38)) (ok := (fun k_ => some k_ ≠ (.slice (some ad1191) t1172.length co23 : Value).ownBlock ∧ some k_ ≠ (v1180 : Value).ownBlock ∧ some k_ ≠ (v1184 : Value).ownBlock)) (by (with_reducible repeat (first | apply Kd.R_alloc | apply Kd.R_drewN | apply Kd.R_drew)); exact Kd.R_mono HO_6.out (fun _ hk => by first | exact ⟨⟨hk.1, ⟨hk.2.1, hk.2.2.1⟩⟩, hk.2.2.2⟩ | exact ⟨⟨hk.2.1, ⟨hk.2.2.1, hk.2.2.2⟩⟩, hk.1⟩)) hg (.inl rfl)); have n2_ := Aside0.mk (Kd.R_after (v := (.slice (some ⟨go38, 0, none⟩) x12_2.length co38)) (v1 := (.slice (some ⟨go38, 0, none⟩) x12_2.length co38)) (ok := (fun k_ => some k_ ≠ (.slice (some ad1191) t1172.length co23 : Value).ownBlock ∧ some k_ ≠ (.slice Ao24 t1175.length co24 : Value).ownBlock ∧ some k_ ≠ (v1184 : Value).ownBlock)) (by (with_reducible repeat (first | apply Kd.R_alloc | apply Kd.R_drewN | apply Kd.R_drew)); exact Kd.R_mono HO_7.out (fun _ hk => by first | exact ⟨⟨hk.1, ⟨hk.2.1, hk.2.2.1⟩⟩, hk.2.2.2⟩ | exact ⟨⟨hk.2.1, ⟨hk.2.2.1, hk.2.2.2⟩⟩, hk.1⟩)) hg (.inl rfl)); have n3_ := Aside0.mk (Kd.R_after (v := (.slice (some ⟨go38, 0, none⟩) x12_2.length co38)) (v1 := (.slice (some ⟨go38, 0, none⟩) x12_2.length co38)) (ok := (fun k_ => some k_ ≠ (.slice (some ad1191) t1172.length co23 : Value).ownBlock ∧ some k_ ≠ (.slice Ao24 t1175.length co24 : Value).ownBlock ∧ some k_ ≠ (v1180 : Value).ownBlock)) (by (with_reducible repeat (first | apply Kd.R_alloc | apply Kd.R_drewN | apply Kd.R_drew)); exact Kd.R_mono HO_9.out (fun _ hk => by first | exact ⟨⟨hk.1, ⟨hk.2.1, hk.2.2.1⟩⟩, hk.2.2.2⟩ | exact ⟨⟨hk.2.1, ⟨hk.2.2.1, hk.2.2.2⟩⟩, hk.1⟩)) hg (.inl rfl)); have n4_ := Aside0.mk (hp_); have n5_ := Aside0.mk (blk_grown (g := gb1169) (o := .cells #[.int .u16 a0_0, .int .u16 a0_1] 88 (0, 0)) (by (with_reducible repeat (first | refine blk_drewN ?_ _ | refine blk_drew ?_ | refine blk_alloc ?_ _)); exact BK1169.out) hg (Kd.R_ne HO_12.out BK1169.out (by decide))); have n6_ := Aside0.mk ((by rw [hw]; exact below_set (HB.out) GB38.out : Below w.heap.size w w40)); clear HO_5; clear HO_6; clear HO_7; clear HO_9; clear HO_12; clear BK1169; clear HB; have HO_5 := n0_; have HO_6 := n1_; have HO_7 := n2_; have HO_9 := n3_; have HO_12 := n4_; have BK1169 := n5_; have HB := n6_; clear n0_ n1_ n2_ n3_ n4_ n5_ n6_; clear hg hw hp_))
                go_roundg k2
                case measure => have := HJ2.out; have := HK2.out; omega
                case rel => exact ⟨(y1193), (x13_2), (wrap64 (x73_2 + 1)), (by first | rfl | (simp; done) | (simp [*]; done)), (by first | rfl | (simp; done) | (simp [*]; done)), H', ⟨by have := HJ2.out; have := HK2.out; omega⟩, ⟨by (with_reducible repeat (first | apply Kd.R_alloc | apply Kd.R_drewN | apply Kd.R_drew)); exact Kd.R_mono HO_5.out (fun _ hk => ⟨hk.1.1, ⟨hk.1.2.1, ⟨hk.1.2.2, hk.2⟩⟩⟩)⟩, ⟨by (with_reducible repeat (first | apply Kd.R_alloc | apply Kd.R_drewN | apply Kd.R_drew)); exact Kd.R_mono HO_6.out (fun _ hk => ⟨hk.1.1, ⟨hk.1.2.1, ⟨hk.1.2.2, hk.2⟩⟩⟩)⟩, ⟨by (with_reducible repeat (first | apply Kd.R_alloc | apply Kd.R_drewN | apply Kd.R_drew)); exact Kd.R_mono HO_7.out (fun _ hk => ⟨hk.1.1, ⟨hk.1.2.1, ⟨hk.1.2.2, hk.2⟩⟩⟩)⟩, ⟨by (with_reducible repeat (first | apply Kd.R_alloc | apply Kd.R_drewN | apply Kd.R_drew)); exact Kd.R_mono HO_9.out (fun _ hk => ⟨hk.1.1, ⟨hk.1.2.1, ⟨hk.1.2.2, hk.2⟩⟩⟩)⟩, ⟨by (with_reducible repeat (first | apply Kd.R_alloc | apply Kd.R_drewN | apply Kd.R_drew)); exact HO_12.out⟩, ⟨by (with_reducible repeat (first | refine blk_drewN ?_ _ | refine blk_drew ?_ | refine blk_alloc ?_ _)); exact BK1169.out⟩, ⟨by repeat (first | (with_reducible first | exact HB.out | apply below_alloc | apply pw_below_drewN | apply below_drew1 | refine below_set ?_ GE1169.out) | exact HB.out)⟩⟩
               ·rw [if_neg c37] at H
                exact absurd H (by simp)
              ·rw [if_neg c36] at H
               exact absurd H (by simp)
             ·rw [if_neg c35] at H
              have c35b0 : decide (0 ≤ t1192) = false := decide_eq_false c35
              clear c35
              by_cases c41 : x13_2 = true
              ·subst c41
               have H1 : (schismalaw11_PrimeEmbeds.l0 k2 l1 t1172 t1175 t1178 t1179 t1182 t1183 x12_2 true l1 (l1.length : Int) (wrap64 (x73_2 + 1))) = some r := by rw [if_pos rfl] at H; exact H
               clear H
               have H := H1
               clear H1
               have H' := Aside0.mk H
               clear H
               have p1190 : 0 ≤ (x73_2 : Int) := of_decide_eq_true (by first | (with_reducible assumption) | assumption)
               have q1190 : x73_2 < (l1.length : Int) := of_decide_eq_true (by first | (with_reducible assumption) | assumption)
               obtain ⟨ad1190, e1190, hx1190_0⟩ := Kd.at_int HR1.out x73_2 p1190 q1190
               cases e1190
               replace hx1190_0 := (HB.out.cell (World.block_lt_of_cell? w _ hx1190_0)).trans hx1190_0
               replace p1190 := eq_true p1190
               replace q1190 := eq_true q1190
               have p1191 : 0 ≤ (x73_2 : Int) := of_decide_eq_true (by first | (with_reducible assumption) | assumption)
               have q1191 : x73_2 < (t1172.length : Int) := of_decide_eq_true (by first | (with_reducible assumption) | assumption)
               obtain ⟨ad1191, e1191, hx1191_0⟩ := Kd.at_int (Kd.R_reads' HO_5.out).2.2 x73_2 p1191 q1191
               cases e1191
               replace p1191 := eq_true p1191
               replace q1191 := eq_true q1191
               go_wp2_with (first | ((with_reducible refine gate_callee (f := 70) rfl ?_); refine goesL_ (some 83) rfl rfl Tryz.func70 (by kernel_rfl) rfl #[.slice Ao24 t1175.length co24, .int .i64 (rd t1172 x73_2)] rfl (by (try simp only [List.map_toArray, List.map_cons, List.map_nil]); first | done | rfl | (simp only [List.length_drop, List.length_take]; rfl)) ?_; (with_reducible refine (api_Primes_int_70.calls k2 _ _ t1175 (rd t1172 x73_2) t1192 _ ?side1 ?side2 A34.out).mono ?_); (case side1 => repeat (first | exact (Kd.R_reads' HO_6.out).2.2 | (with_reducible refine Kd.C_alloc ?_ _) | (with_reducible refine Kd.C_drewN ?_ _) | (with_reducible refine Kd.C_drew ?_))); (case side2 => exact (Kd.R_reads' HO_6.out).2.1); rintro e w' ⟨rfl, ⟨nd, rfl⟩⟩; refine ⟨_, rfl, ?_⟩))
               go_roundg k2
               case measure => have := HJ2.out; have := HK2.out; omega
               case rel => exact ⟨(x12_2), (true), (wrap64 (x73_2 + 1)), (by first | rfl | (simp; done) | (simp [*]; done)), (by first | rfl | (simp; done) | (simp [*]; done)), H', ⟨by have := HJ2.out; have := HK2.out; omega⟩, ⟨by (with_reducible repeat (first | apply Kd.R_alloc | apply Kd.R_drewN | apply Kd.R_drew)); exact HO_5.out⟩, ⟨by (with_reducible repeat (first | apply Kd.R_alloc | apply Kd.R_drewN | apply Kd.R_drew)); exact HO_6.out⟩, ⟨by (with_reducible repeat (first | apply Kd.R_alloc | apply Kd.R_drewN | apply Kd.R_drew)); exact HO_7.out⟩, ⟨by (with_reducible repeat (first | apply Kd.R_alloc | apply Kd.R_drewN | apply Kd.R_drew)); exact HO_9.out⟩, ⟨by (with_reducible repeat (first | apply Kd.R_alloc | apply Kd.R_drewN | apply Kd.R_drew)); exact HO_12.out⟩, ⟨by (with_reducible repeat (first | refine blk_drewN ?_ _ | refine blk_drew ?_ | refine blk_alloc ?_ _)); exact BK1169.out⟩, ⟨by repeat (first | (with_reducible first | exact HB.out | apply below_alloc | apply pw_below_drewN | apply below_drew1 | refine below_set ?_ GE1169.out) | exact HB.out)⟩⟩
              ·replace c41 := Bool.eq_false_iff.mpr c41
               subst c41
               have H1 : (schismalaw11_PrimeEmbeds.l0 k2 l1 t1172 t1175 t1178 t1179 t1182 t1183 x12_2 ((rd l1 x73_2) != 0) l1 (l1.length : Int) (wrap64 (x73_2 + 1))) = some r := by rw [if_neg (show ¬ (false = true) by decide)] at H; exact H
               clear H
               have H := H1
               clear H1
               have H' := Aside0.mk H
               clear H
               have p1190 : 0 ≤ (x73_2 : Int) := of_decide_eq_true (by first | (with_reducible assumption) | assumption)
               have q1190 : x73_2 < (l1.length : Int) := of_decide_eq_true (by first | (with_reducible assumption) | assumption)
               obtain ⟨ad1190, e1190, hx1190_0⟩ := Kd.at_int HR1.out x73_2 p1190 q1190
               cases e1190
               replace hx1190_0 := (HB.out.cell (World.block_lt_of_cell? w _ hx1190_0)).trans hx1190_0
               replace p1190 := eq_true p1190
               replace q1190 := eq_true q1190
               have p1191 : 0 ≤ (x73_2 : Int) := of_decide_eq_true (by first | (with_reducible assumption) | assumption)
               have q1191 : x73_2 < (t1172.length : Int) := of_decide_eq_true (by first | (with_reducible assumption) | assumption)
               obtain ⟨ad1191, e1191, hx1191_0⟩ := Kd.at_int (Kd.R_reads' HO_5.out).2.2 x73_2 p1191 q1191
               cases e1191
               replace p1191 := eq_true p1191
               replace q1191 := eq_true q1191
               go_wp2_with (first | ((with_reducible refine gate_callee (f := 70) rfl ?_); refine goesL_ (some 83) rfl rfl Tryz.func70 (by kernel_rfl) rfl #[.slice Ao24 t1175.length co24, .int .i64 (rd t1172 x73_2)] rfl (by (try simp only [List.map_toArray, List.map_cons, List.map_nil]); first | done | rfl | (simp only [List.length_drop, List.length_take]; rfl)) ?_; (with_reducible refine (api_Primes_int_70.calls k2 _ _ t1175 (rd t1172 x73_2) t1192 _ ?side1 ?side2 A34.out).mono ?_); (case side1 => repeat (first | exact (Kd.R_reads' HO_6.out).2.2 | (with_reducible refine Kd.C_alloc ?_ _) | (with_reducible refine Kd.C_drewN ?_ _) | (with_reducible refine Kd.C_drew ?_))); (case side2 => exact (Kd.R_reads' HO_6.out).2.1); rintro e w' ⟨rfl, ⟨nd, rfl⟩⟩; refine ⟨_, rfl, ?_⟩))
               go_roundg k2
               case measure => have := HJ2.out; have := HK2.out; omega
               case rel => exact ⟨(x12_2), (((rd l1 x73_2) != 0)), (wrap64 (x73_2 + 1)), (by first | rfl | (simp; done) | (simp [*]; done)), (by first | rfl | (simp; done) | (simp [*]; done)), H', ⟨by have := HJ2.out; have := HK2.out; omega⟩, ⟨by (with_reducible repeat (first | apply Kd.R_alloc | apply Kd.R_drewN | apply Kd.R_drew)); exact HO_5.out⟩, ⟨by (with_reducible repeat (first | apply Kd.R_alloc | apply Kd.R_drewN | apply Kd.R_drew)); exact HO_6.out⟩, ⟨by (with_reducible repeat (first | apply Kd.R_alloc | apply Kd.R_drewN | apply Kd.R_drew)); exact HO_7.out⟩, ⟨by (with_reducible repeat (first | apply Kd.R_alloc | apply Kd.R_drewN | apply Kd.R_drew)); exact HO_9.out⟩, ⟨by (with_reducible repeat (first | apply Kd.R_alloc | apply Kd.R_drewN | apply Kd.R_drew)); exact HO_12.out⟩, ⟨by (with_reducible repeat (first | refine blk_drewN ?_ _ | refine blk_drew ?_ | refine blk_alloc ?_ _)); exact BK1169.out⟩, ⟨by repeat (first | (with_reducible first | exact HB.out | apply below_alloc | apply pw_below_drewN | apply below_drew1 | refine below_set ?_ GE1169.out) | exact HB.out)⟩⟩
            ·rw [if_neg c33] at H
             exact absurd H (by simp)
           ·rw [if_neg c32] at H
            exact absurd H (by simp)
          ·rw [if_neg c31] at H
           exact absurd H (by simp)
         ·rw [if_neg c30] at H
          have c30b0 : decide (x73_2 < (l1.length : Int)) = false := decide_eq_false c30
          clear c30
          have HC42 := Aside0.mk H
          clear H
          go_upto_region 19 with (fail)
          go_cut [103] (fun v103 wc => ∃ (kq : Nat) (x103_41 : Bool), v103 = .bool x103_41 ∧ Aside0 (schismalaw11_PrimeEmbeds.j2 kq l1 t1172 t1175 t1178 t1179 x12_2 x13_2 x103_41 = some r) ∧ Aside0 (kq ≤ k2) ∧ Aside0 (Kd.R (Kd.int .i64) 3 wc w.heap.size (fun k_ => some k_ ≠ ((.slice Ao24 t1175.length co24) : Value).ownBlock ∧ some k_ ≠ (v1180 : Value).ownBlock ∧ some k_ ≠ (v1188 : Value).ownBlock) (.slice Ao23 t1172.length co23) t1172) ∧ Aside0 (Kd.R (Kd.int .i64) 3 wc w.heap.size (fun k_ => some k_ ≠ ((.slice Ao23 t1172.length co23) : Value).ownBlock ∧ some k_ ≠ (v1180 : Value).ownBlock ∧ some k_ ≠ (v1188 : Value).ownBlock) (.slice Ao24 t1175.length co24) t1175) ∧ Aside0 (Kd.R (Kd.int .i64) 3 wc w.heap.size (fun k_ => some k_ ≠ ((.slice Ao23 t1172.length co23) : Value).ownBlock ∧ some k_ ≠ ((.slice Ao24 t1175.length co24) : Value).ownBlock ∧ some k_ ≠ (v1188 : Value).ownBlock) v1180 t1178) ∧ Aside0 (Kd.R (Kd.int .i64) 3 wc w.heap.size (fun k_ => some k_ ≠ ((.slice Ao23 t1172.length co23) : Value).ownBlock ∧ some k_ ≠ ((.slice Ao24 t1175.length co24) : Value).ownBlock ∧ some k_ ≠ (v1180 : Value).ownBlock) v1188 x12_2) ∧ Aside0 (wc.heap[gb1169]? = some (.cells #[.int .u16 a0_0, .int .u16 a0_1] 88 (0, 0))) ∧ Aside0 (Below w.heap.size w wc))
          case first =>
           have H := HC42.out
           clear HC42
           by_cases c43 : t1183 = 0
           ·rw [if_pos c43] at H
            have c43b0 : (t1183 == 0) = true := beq_iff_eq.mpr c43
            have c43b1 : (t1183 != 0) = false := bne_eq_false_iff_eq.mpr c43
            clear c43
            (first | rw [c43b0] | (simp only [i64_w, i32_w]; rw [c43b0]) | skip)
            replace H := Option.bind_eq_some_iff.mp H
            obtain ⟨t1194, A440, H⟩ := H
            replace H : (schismalaw11_PrimeEmbeds.j2 k2 l1 t1172 t1175 t1178 t1179 x12_2 x13_2 (!t1194)) = some r := H
            have A44 := Aside0.mk A440
            clear A440
            have H' := Aside0.mk H
            clear H
            obtain ⟨Ao45, co45, eo45⟩ := Kd.R_slice HO_9.out
            subst eo45
            obtain ⟨Ao46, co46, eo46⟩ := Kd.R_slice HO_12.out
            subst eo46
            go_wp2_with (first | (go_at_call 71; (with_reducible refine (api_Row_int.calls k2 _ _ t1182 _ _ x12_2 t1194 _ ?side1 ?side2 ?side3 ?side4 A44.out).mono ?_); (case side1 => repeat (first | exact (Kd.R_reads' HO_9.out).2.2 | (with_reducible refine Kd.C_alloc ?_ _) | (with_reducible refine Kd.C_drewN ?_ _) | (with_reducible refine Kd.C_drew ?_))); (case side2 => exact (Kd.R_reads' HO_9.out).2.1); (case side3 => repeat (first | exact (Kd.R_reads' HO_12.out).2.2 | (with_reducible refine Kd.C_alloc ?_ _) | (with_reducible refine Kd.C_drewN ?_ _) | (with_reducible refine Kd.C_drew ?_))); (case side4 => exact (Kd.R_reads' HO_12.out).2.1); rintro e w' ⟨rfl, ⟨nd, rfl⟩⟩))
            go_meet
            case rel => exact ⟨_, (!t1194), (by first | rfl | (simp; done) | (simp [*]; done)), H', ⟨by have := HJ2.out; have := HK2.out; first | omega | exact Nat.le_refl _⟩, ⟨by (with_reducible repeat (first | apply Kd.R_alloc | apply Kd.R_drewN | apply Kd.R_drew)); exact Kd.R_mono HO_5.out (fun _ hk => ⟨hk.1, ⟨hk.2.1, hk.2.2.2⟩⟩)⟩, ⟨by (with_reducible repeat (first | apply Kd.R_alloc | apply Kd.R_drewN | apply Kd.R_drew)); exact Kd.R_mono HO_6.out (fun _ hk => ⟨hk.1, ⟨hk.2.1, hk.2.2.2⟩⟩)⟩, ⟨by (with_reducible repeat (first | apply Kd.R_alloc | apply Kd.R_drewN | apply Kd.R_drew)); exact Kd.R_mono HO_7.out (fun _ hk => ⟨hk.1, ⟨hk.2.1, hk.2.2.2⟩⟩)⟩, ⟨by (with_reducible repeat (first | apply Kd.R_alloc | apply Kd.R_drewN | apply Kd.R_drew)); exact Kd.R_mono HO_12.out (fun _ hk => ⟨hk.1, ⟨hk.2.1, hk.2.2.1⟩⟩)⟩, ⟨by (with_reducible repeat (first | refine blk_drewN ?_ _ | refine blk_drew ?_ | refine blk_alloc ?_ _)); exact BK1169.out⟩, ⟨by repeat (first | (with_reducible first | exact HB.out | apply below_alloc | apply pw_below_drewN | apply below_drew1 | refine below_set ?_ GE1169.out) | exact HB.out)⟩⟩
           ·rw [if_neg c43] at H
            have c43b0 : (t1183 == 0) = false := beq_eq_false_iff_ne.mpr c43
            have c43b1 : (t1183 != 0) = true := bne_iff_ne.mpr c43
            (first | rw [c43b0] | (simp only [i64_w, i32_w]; rw [c43b0]) | skip)
            exact (schismalaw11_PrimeEmbeds.j2_no H hr).elim
          case rest =>
           clear HC42
           try clear c1
           try clear p1
           try clear q1
           try clear hx1
           try clear p2
           try clear c3
           try clear p3
           try clear q3
           try clear hx3
           try clear hf3
           try clear c4
           try clear c5
           try clear c6
           try clear p6
           try clear c7
           try clear c9
           try clear p11
           try clear q11
           try clear hx11
           try clear c13
           try clear c17
           try clear c17b0
           try clear c17b1
           try clear c18
           try clear c18b0
           try clear c18b1
           try clear c19
           try clear c19b0
           try clear c19b1
           try clear c30
           try clear c30b0
           try clear c31
           try clear c31b0
           try clear c32
           try clear c32b0
           try clear c33
           try clear c33b0
           try clear c35
           try clear c35b0
           try clear c36
           try clear c36b0
           try clear c37
           try clear c37b0
           try clear p38
           try clear q38
           try clear hx38
           try clear hf38
           try clear c41
           try clear c43
           try clear c43b0
           try clear c43b1
           try clear hx1190_0
           try clear hx1191_0
           try clear hx38_0
           try clear p1190
           try clear p1191
           try clear p2
           try clear p38
           try clear p6
           try clear q1190
           try clear q1191
           try clear q38
           obtain ⟨kq, x103_41, rfl, HA, HJ41, HO_5, HO_6, HO_7, HO_12, BK1169, HB⟩ := hcut
           cases kq with
           | zero => exact absurd HA.out (by simp [schismalaw11_PrimeEmbeds.j2])
           | succ kj41 =>
            have H := HA.out
            clear HA
            simp only [schismalaw11_PrimeEmbeds.j2] at H
            by_cases c47 : x103_41 = true
            ·subst c47
             have H1 : (some false) = some r := by rw [if_pos rfl] at H; exact H
             clear H
             have H := H1
             clear H1
             exact absurd ((Option.some.inj H).trans hr) Bool.false_ne_true
            ·replace c47 := Bool.eq_false_iff.mpr c47
             subst c47
             have H1 : (if x13_2 = true then (if t1179 = 25 then (some ((t1178.length : Int) == 0)) else (some false)) else ((prime_Embed.f kj41 t1175 t1172 t1178).bind fun bt1195 => (if t1179 = 0 then ((api_Row_int.f kj41 t1178 x12_2).bind fun t1199 => (if t1199 = true then (if bt1195.2 = 0 then ((api_Row_int.f kj41 bt1195.1 l1).bind fun t1200 => (some t1200)) else (some false)) else (some false))) else (some false)))) = some r := by rw [if_neg (show ¬ (false = true) by decide)] at H; exact H
             clear H
             have H := H1
             clear H1
             by_cases c48 : x13_2 = true
             ·subst c48
              have H1 : (if t1179 = 25 then (some ((t1178.length : Int) == 0)) else (some false)) = some r := by rw [if_pos rfl] at H; exact H
              clear H
              have H := H1
              clear H1
              by_cases c49 : t1179 = 25
              ·rw [if_pos c49] at H
               have c49b0 : (t1179 == 25) = true := beq_iff_eq.mpr c49
               have c49b1 : (t1179 != 25) = false := bne_eq_false_iff_eq.mpr c49
               clear c49
               obtain rfl := Option.some.inj H
               obtain ⟨Ao50, co50, eo50⟩ := Kd.R_slice HO_7.out
               subst eo50
               go_wp2
               go_ret
               exact ⟨by first | rfl | (simp [errW_none, errW_some] <;> rfl) | (simp [*, errW_none, errW_some] <;> rfl), by repeat (first | (with_reducible first | exact HB.out | apply below_alloc | apply pw_below_drewN | apply below_drew1 | refine below_set ?_ GE1169.out) | exact HB.out)⟩
              ·rw [if_neg c49] at H
               have c49b0 : (t1179 == 25) = false := beq_eq_false_iff_ne.mpr c49
               have c49b1 : (t1179 != 25) = true := bne_iff_ne.mpr c49
               exact absurd ((Option.some.inj H).trans hr) Bool.false_ne_true
             ·replace c48 := Bool.eq_false_iff.mpr c48
              subst c48
              have H1 : ((prime_Embed.f kj41 t1175 t1172 t1178).bind fun bt1195 => (if t1179 = 0 then ((api_Row_int.f kj41 t1178 x12_2).bind fun t1199 => (if t1199 = true then (if bt1195.2 = 0 then ((api_Row_int.f kj41 bt1195.1 l1).bind fun t1200 => (some t1200)) else (some false)) else (some false))) else (some false))) = some r := by rw [if_neg (show ¬ (false = true) by decide)] at H; exact H
              clear H
              have H := H1
              clear H1
              replace H := Option.bind_eq_some_iff.mp H
              obtain ⟨⟨t1195, t1196⟩, A510, H⟩ := H
              replace H : (if t1179 = 0 then ((api_Row_int.f kj41 t1178 x12_2).bind fun t1199 => (if t1199 = true then (if t1196 = 0 then ((api_Row_int.f kj41 t1195 l1).bind fun t1200 => (some t1200)) else (some false)) else (some false))) else (some false)) = some r := H
              have A51 := Aside0.mk A510
              clear A510
              by_cases c52 : t1179 = 0
              ·rw [if_pos c52] at H
               have c52b0 : (t1179 == 0) = true := beq_iff_eq.mpr c52
               have c52b1 : (t1179 != 0) = false := bne_eq_false_iff_eq.mpr c52
               clear c52
               replace H := Option.bind_eq_some_iff.mp H
               obtain ⟨t1199, A530, H⟩ := H
               replace H : (if t1199 = true then (if t1196 = 0 then ((api_Row_int.f kj41 t1195 l1).bind fun t1200 => (some t1200)) else (some false)) else (some false)) = some r := H
               have A53 := Aside0.mk A530
               clear A530
               by_cases c54 : t1199 = true
               ·subst c54
                have H1 : (if t1196 = 0 then ((api_Row_int.f kj41 t1195 l1).bind fun t1200 => (some t1200)) else (some false)) = some r := by rw [if_pos rfl] at H; exact H
                clear H
                have H := H1
                clear H1
                by_cases c55 : t1196 = 0
                ·rw [if_pos c55] at H
                 have c55b0 : (t1196 == 0) = true := beq_iff_eq.mpr c55
                 have c55b1 : (t1196 != 0) = false := bne_eq_false_iff_eq.mpr c55
                 clear c55
                 replace H := Option.bind_eq_some_iff.mp H
                 obtain ⟨t1200, A560, H⟩ := H
                 replace H : (some t1200) = some r := H
                 have A56 := Aside0.mk A560
                 clear A560
                 obtain rfl := Option.some.inj H
                 obtain ⟨Ao57, co57, eo57⟩ := Kd.R_slice HO_7.out
                 subst eo57
                 go_wp2_with (first | ((with_reducible refine gate_callee (f := 67) rfl ?_); refine goesL_ (some 116) rfl rfl Tryz.func67 (by kernel_rfl) rfl #[.slice Ao24 t1175.length co24, .slice Ao23 t1172.length co23, .slice Ao57 t1178.length co57] rfl (by (try simp only [List.map_toArray, List.map_cons, List.map_nil]); first | done | rfl | (simp only [List.length_drop, List.length_take]; rfl)) ?_; (with_reducible refine (prime_Embed.calls kj41 _ _ t1175 _ _ t1172 _ _ t1178 t1195 t1196 _ ?side1 ?side2 ?side3 ?side4 ?side5 ?side6 A51.out).mono ?_); (case side1 => repeat (first | exact (Kd.R_reads' HO_6.out).2.2 | (with_reducible refine Kd.C_alloc ?_ _) | (with_reducible refine Kd.C_drewN ?_ _) | (with_reducible refine Kd.C_drew ?_))); (case side2 => exact (Kd.R_reads' HO_6.out).2.1); (case side3 => repeat (first | exact (Kd.R_reads' HO_5.out).2.2 | (with_reducible refine Kd.C_alloc ?_ _) | (with_reducible refine Kd.C_drewN ?_ _) | (with_reducible refine Kd.C_drew ?_))); (case side4 => exact (Kd.R_reads' HO_5.out).2.1); (case side5 => repeat (first | exact (Kd.R_reads' HO_7.out).2.2 | (with_reducible refine Kd.C_alloc ?_ _) | (with_reducible refine Kd.C_drewN ?_ _) | (with_reducible refine Kd.C_drew ?_))); (case side6 => exact (Kd.R_reads' HO_7.out).2.1); rintro e w58 ⟨v1197, rfl, ho0, hb⟩; refine ⟨_, rfl, ?_⟩; have n0_ := Aside0.mk (Kd.R_elder' (by (with_reducible repeat (first | apply Kd.R_alloc | apply Kd.R_drewN | apply Kd.R_drew)); exact HO_5.out) (Kd.R_base ho0) hb); have n1_ := Aside0.mk (Kd.R_elder' (by (with_reducible repeat (first | apply Kd.R_alloc | apply Kd.R_drewN | apply Kd.R_drew)); exact HO_6.out) (Kd.R_base ho0) hb); have n2_ := Aside0.mk (Kd.R_elder' (by (with_reducible repeat (first | apply Kd.R_alloc | apply Kd.R_drewN | apply Kd.R_drew)); exact HO_7.out) (Kd.R_base ho0) hb); have n3_ := Aside0.mk (Kd.R_elder' (by (with_reducible repeat (first | apply Kd.R_alloc | apply Kd.R_drewN | apply Kd.R_drew)); exact HO_12.out) (Kd.R_base ho0) hb); have n4_ := Aside0.mk (Kd.R_lower (Kd.R_new' (Kd.R_new' (Kd.R_new' (Kd.R_new' ho0 (Kd.R_lt (by (with_reducible repeat (first | apply Kd.R_alloc | apply Kd.R_drewN | apply Kd.R_drew)); exact HO_5.out))) (Kd.R_lt (by (with_reducible repeat (first | apply Kd.R_alloc | apply Kd.R_drewN | apply Kd.R_drew)); exact HO_6.out))) (Kd.R_lt (by (with_reducible repeat (first | apply Kd.R_alloc | apply Kd.R_drewN | apply Kd.R_drew)); exact HO_7.out))) (Kd.R_lt (by (with_reducible repeat (first | apply Kd.R_alloc | apply Kd.R_drewN | apply Kd.R_drew)); exact HO_12.out))) (below_size (by repeat (first | (with_reducible first | exact HB.out | apply below_alloc | apply pw_below_drewN | apply below_drew1 | refine below_set ?_ GE1169.out) | exact HB.out)))); have n5_ := Aside0.mk (blk_below (g := gb1169) (o := .cells #[.int .u16 a0_0, .int .u16 a0_1] 88 (0, 0)) (by (with_reducible repeat (first | refine blk_drewN ?_ _ | refine blk_drew ?_ | refine blk_alloc ?_ _)); exact BK1169.out) hb); have n6_ := Aside0.mk (below_step (by repeat (first | (with_reducible first | exact HB.out | apply below_alloc | apply pw_below_drewN | apply below_drew1 | refine below_set ?_ GE1169.out) | exact HB.out)) hb); clear HO_5; clear HO_6; clear HO_7; clear HO_12; clear BK1169; clear HB; have HO_5 := n0_; have HO_6 := n1_; have HO_7 := n2_; have HO_12 := n3_; have HO1198 := n4_; have BK1169 := n5_; have HB := n6_; clear n0_ n1_ n2_ n3_ n4_ n5_ n6_; (try clear hb); (try clear hb2); (try clear hk); (try clear hi); (try clear ho0); obtain ⟨Ao59, co59, eo59⟩ := Kd.R_slice HO_12.out; subst eo59) | (go_at_call 71; (with_reducible refine (api_Row_int.calls kj41 _ _ t1178 _ _ x12_2 true _ ?side1 ?side2 ?side3 ?side4 A53.out).mono ?_); (case side1 => repeat (first | exact (Kd.R_reads' HO_7.out).2.2 | (with_reducible refine Kd.C_alloc ?_ _) | (with_reducible refine Kd.C_drewN ?_ _) | (with_reducible refine Kd.C_drew ?_))); (case side2 => exact (Kd.R_reads' HO_7.out).2.1); (case side3 => repeat (first | exact (Kd.R_reads' HO_12.out).2.2 | (with_reducible refine Kd.C_alloc ?_ _) | (with_reducible refine Kd.C_drewN ?_ _) | (with_reducible refine Kd.C_drew ?_))); (case side4 => exact (Kd.R_reads' HO_12.out).2.1); rintro e w' ⟨rfl, ⟨nd, rfl⟩⟩; obtain ⟨Ao60, co60, eo60⟩ := Kd.R_slice HO1198.out; subst eo60) | (go_at_call 71; (with_reducible refine (api_Row_int.calls kj41 _ _ t1195 _ _ l1 t1200 _ ?side1 ?side2 ?side3 ?side4 A56.out).mono ?_); (case side1 => repeat (first | exact (Kd.R_reads' HO1198.out).2.2 | (with_reducible refine Kd.C_alloc ?_ _) | (with_reducible refine Kd.C_drewN ?_ _) | (with_reducible refine Kd.C_drew ?_))); (case side2 => exact (Kd.R_reads' HO1198.out).2.1); (case side3 => repeat (first | exact (Kd.C_below HR1.out (by repeat (first | (with_reducible first | exact HB.out | apply below_alloc | apply pw_below_drewN | apply below_drew1 | refine below_set ?_ GE1169.out) | exact HB.out))) | (with_reducible refine Kd.C_alloc ?_ _) | (with_reducible refine Kd.C_drewN ?_ _) | (with_reducible refine Kd.C_drew ?_))); (case side4 => exact HC1.out); rintro e w' ⟨rfl, ⟨nd, rfl⟩⟩))
                 go_ret
                 exact ⟨by first | rfl | (simp [errW_none, errW_some] <;> rfl) | (simp [*, errW_none, errW_some] <;> rfl), by repeat (first | (with_reducible first | exact HB.out | apply below_alloc | apply pw_below_drewN | apply below_drew1 | refine below_set ?_ GE1169.out) | exact HB.out)⟩
                ·rw [if_neg c55] at H
                 have c55b0 : (t1196 == 0) = false := beq_eq_false_iff_ne.mpr c55
                 have c55b1 : (t1196 != 0) = true := bne_iff_ne.mpr c55
                 exact absurd ((Option.some.inj H).trans hr) Bool.false_ne_true
               ·replace c54 := Bool.eq_false_iff.mpr c54
                subst c54
                have H1 : (some false) = some r := by rw [if_neg (show ¬ (false = true) by decide)] at H; exact H
                clear H
                have H := H1
                clear H1
                exact absurd ((Option.some.inj H).trans hr) Bool.false_ne_true
              ·rw [if_neg c52] at H
               have c52b0 : (t1179 == 0) = false := beq_eq_false_iff_ne.mpr c52
               have c52b1 : (t1179 != 0) = true := bne_iff_ne.mpr c52
               exact absurd ((Option.some.inj H).trans hr) Bool.false_ne_true
      ·rw [if_neg c19] at H
       exact absurd H (by simp)
     ·rw [if_neg c18] at H
      exact absurd H (by simp)
    ·rw [if_neg c17] at H
     have c17b0 : (t1186 == 0) = false := beq_eq_false_iff_ne.mpr c17
     have c17b1 : (t1186 != 0) = true := bne_iff_ne.mpr c17
     by_cases c69 : t1179 = t1186
     ·rw [if_pos c69] at H
      have c69b0 : (t1179 == t1186) = true := beq_iff_eq.mpr c69
      have c69b1 : (t1179 != t1186) = false := bne_eq_false_iff_eq.mpr c69
      clear c69
      by_cases c70 : t1183 = t1186
      ·rw [if_pos c70] at H
       have c70b0 : (t1183 == t1186) = true := beq_iff_eq.mpr c70
       have c70b1 : (t1183 != t1186) = false := bne_eq_false_iff_eq.mpr c70
       clear c70
       obtain rfl := Option.some.inj H
       try go_wp2
       have n0_ := Aside0.mk (blk_drew BK1169.out)
       have n1_ := Aside0.mk (below_drew1 HB.out)
       clear BK1169
       clear HB
       have BK1169 := n0_
       have HB := n1_
       clear n0_ n1_
       refine start_ (n := 8) (S := fun w' => w'.cell? ⟨gb1169, 0, none⟩ = some (.int .u16 a0_0) ∧ w'.cell? ⟨gb1169, 1, none⟩ = some (.int .u16 a0_1)) (ds := []) #[false, false, false, false, false, false, false, false] (by kernel_rfl) rfl rfl ⟨(blk_cell BK1169.out 0).trans rfl, (blk_cell BK1169.out 1).trans rfl⟩ (fun hHeld => ?_); refine with_tabW schismalaw11_PrimeEmbeds.tab3 schismalaw11_PrimeEmbeds.bits3 (fun HT_ HW_ => ?_)
       generalize wc.drew = w71 at BK1169 HB hHeld ⊢
       refine pure_ (i := 0) (N := some 27) (v := ?_) (a' := ?_) #[true, false, false, false, false, false, false, false] rfl rfl (any_of HT_.out (by kernel_rfl)) (fun _ _ _ h => h) (Or.inl ⟨by rfl, ?_⟩) ?_ ?_
       rotate_left
       ·intro w'
        go_simp
        with_reducible rfl
       rotate_left
       ·simp only [Act.put, List.setIfInBounds_toArray, List.set_cons_zero, List.set_cons_succ, i64_w, i32_w]
        rfl
       refine pure_ (i := 3) (N := some 30) (v := ?_) (a' := ?_) #[true, false, false, true, false, false, false, false] rfl rfl (any_of HT_.out (by kernel_rfl)) (fun _ _ _ h => h) (Or.inl ⟨by rfl, ?_⟩) ?_ ?_
       rotate_left
       ·intro w'
        go_simp
        with_reducible rfl
       rotate_left
       ·simp only [Act.put, List.setIfInBounds_toArray, List.set_cons_zero, List.set_cons_succ, i64_w, i32_w]
        rfl
       refine take_ (i := 1) (N := some 28) (v := ?_) (a' := ?_) #[true, true, false, true, false, false, false, false] rfl rfl (take_ofW HT_.out HW_.out (by kernel_rfl)) (fun _ _ _ h => h) (Or.inl ⟨by rfl, ?_⟩) hHeld ?_ ?_
       rotate_left
       ·rintro w' ⟨s0, s1⟩
        go_simp
        with_reducible rfl
       rotate_left
       ·simp only [Act.put, List.setIfInBounds_toArray, List.set_cons_zero, List.set_cons_succ, i64_w, i32_w]
        rfl
       refine take_ (i := 4) (N := some 31) (v := ?_) (a' := ?_) #[true, true, false, true, true, false, false, false] rfl rfl (take_ofW HT_.out HW_.out (by kernel_rfl)) (fun _ _ _ h => h) (Or.inl ⟨by rfl, ?_⟩) hHeld ?_ ?_
       rotate_left
       ·rintro w' ⟨s0, s1⟩
        go_simp
        with_reducible rfl
       rotate_left
       ·simp only [Act.put, List.setIfInBounds_toArray, List.set_cons_zero, List.set_cons_succ, i64_w, i32_w]
        rfl
       refine one_ (i := 2) (N := some 29) #[true, true, true, true, true, false, false, false] rfl rfl (one_of HT_.out (by kernel_rfl)) (by decide) (fun K hK => ?_)
       refine goes_ Tryz.func66 (by kernel_rfl) rfl #[.int .u16 a0_0] (by rfl) rfl rfl (by (try simp only [List.map_toArray, List.map_cons, List.map_nil]); first | done | rfl | (simp only [List.length_drop, List.length_take]; rfl)) ?_
       with_reducible refine (schismalaw11_Make.calls kj2 a0_0 t1172 _ A12.out).mono ?_
       rintro e w72 ⟨v1173, rfl, ho0, hb⟩
       refine ⟨_, rfl, ?_⟩
       have n0_ := Aside0.mk (Kd.R_lower ho0 (below_size (by repeat (first | (with_reducible first | exact HB.out | apply below_alloc | apply pw_below_drewN | apply below_drew1 | refine below_set ?_ GE1169.out) | exact HB.out))))
       have n1_ := Aside0.mk (blk_below (g := gb1169) (o := .cells #[.int .u16 a0_0, .int .u16 a0_1] 88 (0, 0)) (by (with_reducible repeat (first | refine blk_drewN ?_ _ | refine blk_drew ?_ | refine blk_alloc ?_ _)); exact BK1169.out) hb)
       have n2_ := Aside0.mk (below_step (by repeat (first | (with_reducible first | exact HB.out | apply below_alloc | apply pw_below_drewN | apply below_drew1 | refine below_set ?_ GE1169.out) | exact HB.out)) hb)
       clear BK1169
       clear HB
       have HO1174 := n0_
       have BK1169 := n1_
       have HB := n2_
       clear n0_ n1_ n2_
       (try clear hb)
       (try clear hb2)
       (try clear hk)
       (try clear hi)
       (try clear ho0)
       refine hK.out _ _ ⟨(blk_cell BK1169.out 0).trans rfl, (blk_cell BK1169.out 1).trans rfl⟩ (fun hHeld => ?_)
       clear hK K
       refine norm_ (a' := ?_) ?_ ?_
       rotate_left
       ·show Act.put _ (some 29) _ = _
        simp only [Act.put, List.setIfInBounds_toArray, List.set_cons_zero, List.set_cons_succ, i64_w, i32_w]
        rfl
       refine one_ (i := 5) (N := some 32) #[true, true, true, true, true, true, false, false] rfl rfl (one_of HT_.out (by kernel_rfl)) (by decide) (fun K hK => ?_)
       refine goes_ Tryz.func66 (by kernel_rfl) rfl #[.int .u16 a0_1] (by rfl) rfl rfl (by (try simp only [List.map_toArray, List.map_cons, List.map_nil]); first | done | rfl | (simp only [List.length_drop, List.length_take]; rfl)) ?_
       with_reducible refine (schismalaw11_Make.calls kj2 a0_1 t1175 _ A13.out).mono ?_
       rintro e w73 ⟨v1176, rfl, ho0, hb⟩
       refine ⟨_, rfl, ?_⟩
       have n0_ := Aside0.mk (Kd.R_elder' (by (with_reducible repeat (first | apply Kd.R_alloc | apply Kd.R_drewN | apply Kd.R_drew)); exact HO1174.out) (Kd.R_base ho0) hb)
       have n1_ := Aside0.mk (Kd.R_lower (Kd.R_new' ho0 (Kd.R_lt (by (with_reducible repeat (first | apply Kd.R_alloc | apply Kd.R_drewN | apply Kd.R_drew)); exact HO1174.out))) (below_size (by repeat (first | (with_reducible first | exact HB.out | apply below_alloc | apply pw_below_drewN | apply below_drew1 | refine below_set ?_ GE1169.out) | exact HB.out))))
       have n2_ := Aside0.mk (blk_below (g := gb1169) (o := .cells #[.int .u16 a0_0, .int .u16 a0_1] 88 (0, 0)) (by (with_reducible repeat (first | refine blk_drewN ?_ _ | refine blk_drew ?_ | refine blk_alloc ?_ _)); exact BK1169.out) hb)
       have n3_ := Aside0.mk (below_step (by repeat (first | (with_reducible first | exact HB.out | apply below_alloc | apply pw_below_drewN | apply below_drew1 | refine below_set ?_ GE1169.out) | exact HB.out)) hb)
       clear HO1174
       clear BK1169
       clear HB
       have HO1174 := n0_
       have HO1177 := n1_
       have BK1169 := n2_
       have HB := n3_
       clear n0_ n1_ n2_ n3_
       (try clear hb)
       (try clear hb2)
       (try clear hk)
       (try clear hi)
       (try clear ho0)
       refine hK.out _ _ ⟨(blk_cell BK1169.out 0).trans rfl, (blk_cell BK1169.out 1).trans rfl⟩ (fun hHeld => ?_)
       clear hK K
       refine norm_ (a' := ?_) ?_ ?_
       rotate_left
       ·show Act.put _ (some 32) _ = _
        simp only [Act.put, List.setIfInBounds_toArray, List.set_cons_zero, List.set_cons_succ, i64_w, i32_w]
        rfl
       refine pure_ (i := 6) (N := some 5) (v := ?_) (a' := ?_) #[true, true, true, true, true, true, true, false] rfl rfl (any_of HT_.out (by kernel_rfl)) (fun _ _ _ h => h) (Or.inl ⟨by rfl, ?_⟩) ?_ ?_
       rotate_left
       ·intro w'
        go_simp
        with_reducible rfl
       rotate_left
       ·simp only [Act.put, List.setIfInBounds_toArray, List.set_cons_zero, List.set_cons_succ, i64_w, i32_w]
        rfl
       refine pure_ (i := 7) (N := some 6) (v := ?_) (a' := ?_) #[true, true, true, true, true, true, true, true] rfl rfl (any_of HT_.out (by kernel_rfl)) (fun _ _ _ h => h) (Or.inl ⟨by rfl, ?_⟩) ?_ ?_
       rotate_left
       ·intro w'
        go_simp
        with_reducible rfl
       rotate_left
       ·simp only [Act.put, List.setIfInBounds_toArray, List.set_cons_zero, List.set_cons_succ, i64_w, i32_w]
        rfl
       refine done_ (done_of HT_.out (by kernel_rfl)) ?_
       obtain ⟨Ao74, co74, eo74⟩ := Kd.R_slice HO1174.out
       subst eo74
       obtain ⟨Ao75, co75, eo75⟩ := Kd.R_slice HO1177.out
       subst eo75
       try go_wp2_with (first | ((with_reducible refine gate_callee (f := 67) rfl ?_); refine goesL_ (some 37) rfl rfl Tryz.func67 (by kernel_rfl) rfl #[.slice Ao74 t1172.length co74, .slice Ao75 t1175.length co75, .slice A1 l1.length c1] rfl (by (try simp only [List.map_toArray, List.map_cons, List.map_nil]); first | done | rfl | (simp only [List.length_drop, List.length_take]; rfl)) ?_; (with_reducible refine (prime_Embed.calls kj2 _ _ t1172 _ _ t1175 _ _ l1 t1178 t1179 _ ?side1 ?side2 ?side3 ?side4 ?side5 ?side6 A14.out).mono ?_); (case side1 => repeat (first | exact (Kd.R_reads' HO1174.out).2.2 | (with_reducible refine Kd.C_alloc ?_ _) | (with_reducible refine Kd.C_drewN ?_ _) | (with_reducible refine Kd.C_drew ?_))); (case side2 => exact (Kd.R_reads' HO1174.out).2.1); (case side3 => repeat (first | exact (Kd.R_reads' HO1177.out).2.2 | (with_reducible refine Kd.C_alloc ?_ _) | (with_reducible refine Kd.C_drewN ?_ _) | (with_reducible refine Kd.C_drew ?_))); (case side4 => exact (Kd.R_reads' HO1177.out).2.1); (case side5 => repeat (first | exact (Kd.C_below HR1.out HB.out) | (with_reducible refine Kd.C_alloc ?_ _) | (with_reducible refine Kd.C_drewN ?_ _) | (with_reducible refine Kd.C_drew ?_))); (case side6 => exact HC1.out); rintro e w76 ⟨v1180, rfl, ho0, hb⟩; refine ⟨_, rfl, ?_⟩; have n0_ := Aside0.mk (Kd.R_elder' (by (with_reducible repeat (first | apply Kd.R_alloc | apply Kd.R_drewN | apply Kd.R_drew)); exact HO1174.out) (Kd.R_base ho0) hb); have n1_ := Aside0.mk (Kd.R_elder' (by (with_reducible repeat (first | apply Kd.R_alloc | apply Kd.R_drewN | apply Kd.R_drew)); exact HO1177.out) (Kd.R_base ho0) hb); have n2_ := Aside0.mk (Kd.R_lower (Kd.R_new' (Kd.R_new' ho0 (Kd.R_lt (by (with_reducible repeat (first | apply Kd.R_alloc | apply Kd.R_drewN | apply Kd.R_drew)); exact HO1174.out))) (Kd.R_lt (by (with_reducible repeat (first | apply Kd.R_alloc | apply Kd.R_drewN | apply Kd.R_drew)); exact HO1177.out))) (below_size (by repeat (first | (with_reducible first | exact HB.out | apply below_alloc | apply pw_below_drewN | apply below_drew1 | refine below_set ?_ GE1169.out) | exact HB.out)))); have n3_ := Aside0.mk (blk_below (g := gb1169) (o := .cells #[.int .u16 a0_0, .int .u16 a0_1] 88 (0, 0)) (by (with_reducible repeat (first | refine blk_drewN ?_ _ | refine blk_drew ?_ | refine blk_alloc ?_ _)); exact BK1169.out) hb); have n4_ := Aside0.mk (below_step (by repeat (first | (with_reducible first | exact HB.out | apply below_alloc | apply pw_below_drewN | apply below_drew1 | refine below_set ?_ GE1169.out) | exact HB.out)) hb); clear HO1174; clear HO1177; clear BK1169; clear HB; have HO1174 := n0_; have HO1177 := n1_; have HO1181 := n2_; have BK1169 := n3_; have HB := n4_; clear n0_ n1_ n2_ n3_ n4_; (try clear hb); (try clear hb2); (try clear hk); (try clear hi); (try clear ho0)) | ((with_reducible refine gate_callee (f := 68) rfl ?_); refine goesL_ (some 44) rfl rfl Tryz.func68 (by kernel_rfl) rfl #[.slice Ao74 t1172.length co74, .slice Ao75 t1175.length co75, .slice A1 l1.length c1] rfl (by (try simp only [List.map_toArray, List.map_cons, List.map_nil]); first | done | rfl | (simp only [List.length_drop, List.length_take]; rfl)) ?_; (with_reducible refine (prime_Restrict.calls kj2 _ _ t1172 _ _ t1175 _ _ l1 t1182 t1183 _ ?side1 ?side2 ?side3 ?side4 ?side5 ?side6 A15.out).mono ?_); (case side1 => repeat (first | exact (Kd.R_reads' HO1174.out).2.2 | (with_reducible refine Kd.C_alloc ?_ _) | (with_reducible refine Kd.C_drewN ?_ _) | (with_reducible refine Kd.C_drew ?_))); (case side2 => exact (Kd.R_reads' HO1174.out).2.1); (case side3 => repeat (first | exact (Kd.R_reads' HO1177.out).2.2 | (with_reducible refine Kd.C_alloc ?_ _) | (with_reducible refine Kd.C_drewN ?_ _) | (with_reducible refine Kd.C_drew ?_))); (case side4 => exact (Kd.R_reads' HO1177.out).2.1); (case side5 => repeat (first | exact (Kd.C_below HR1.out HB.out) | (with_reducible refine Kd.C_alloc ?_ _) | (with_reducible refine Kd.C_drewN ?_ _) | (with_reducible refine Kd.C_drew ?_))); (case side6 => exact HC1.out); rintro e w77 ⟨v1184, rfl, ho0, hb⟩; refine ⟨_, rfl, ?_⟩; have n0_ := Aside0.mk (Kd.R_elder' (by (with_reducible repeat (first | apply Kd.R_alloc | apply Kd.R_drewN | apply Kd.R_drew)); exact HO1174.out) (Kd.R_base ho0) hb); have n1_ := Aside0.mk (Kd.R_elder' (by (with_reducible repeat (first | apply Kd.R_alloc | apply Kd.R_drewN | apply Kd.R_drew)); exact HO1177.out) (Kd.R_base ho0) hb); have n2_ := Aside0.mk (Kd.R_elder' (by (with_reducible repeat (first | apply Kd.R_alloc | apply Kd.R_drewN | apply Kd.R_drew)); exact HO1181.out) (Kd.R_base ho0) hb); have n3_ := Aside0.mk (Kd.R_lower (Kd.R_new' (Kd.R_new' (Kd.R_new' ho0 (Kd.R_lt (by (with_reducible repeat (first | apply Kd.R_alloc | apply Kd.R_drewN | apply Kd.R_drew)); exact HO1174.out))) (Kd.R_lt (by (with_reducible repeat (first | apply Kd.R_alloc | apply Kd.R_drewN | apply Kd.R_drew)); exact HO1177.out))) (Kd.R_lt (by (with_reducible repeat (first | apply Kd.R_alloc | apply Kd.R_drewN | apply Kd.R_drew)); exact HO1181.out))) (below_size (by repeat (first | (with_reducible first | exact HB.out | apply below_alloc | apply pw_below_drewN | apply below_drew1 | refine below_set ?_ GE1169.out) | exact HB.out)))); have n4_ := Aside0.mk (blk_below (g := gb1169) (o := .cells #[.int .u16 a0_0, .int .u16 a0_1] 88 (0, 0)) (by (with_reducible repeat (first | refine blk_drewN ?_ _ | refine blk_drew ?_ | refine blk_alloc ?_ _)); exact BK1169.out) hb); have n5_ := Aside0.mk (below_step (by repeat (first | (with_reducible first | exact HB.out | apply below_alloc | apply pw_below_drewN | apply below_drew1 | refine below_set ?_ GE1169.out) | exact HB.out)) hb); clear HO1174; clear HO1177; clear HO1181; clear BK1169; clear HB; have HO1174 := n0_; have HO1177 := n1_; have HO1181 := n2_; have HO1185 := n3_; have BK1169 := n4_; have HB := n5_; clear n0_ n1_ n2_ n3_ n4_ n5_; (try clear hb); (try clear hb2); (try clear hk); (try clear hi); (try clear ho0)) | ((with_reducible refine gate_callee (f := 69) rfl ?_); refine goesL_ (some 49) rfl rfl Tryz.func69 (by kernel_rfl) rfl #[.slice Ao74 t1172.length co74, .slice A1 l1.length c1] rfl (by (try simp only [List.map_toArray, List.map_cons, List.map_nil]); first | done | rfl | (simp only [List.length_drop, List.length_take]; rfl)) ?_; (with_reducible refine (schismalaw11_checkRow.calls _ _ t1172 _ _ l1 t1186 _ ?side1 ?side2 ?side3 ?side4 A16.out).mono ?_); (case side1 => repeat (first | exact (Kd.R_reads' HO1174.out).2.2 | (with_reducible refine Kd.C_alloc ?_ _) | (with_reducible refine Kd.C_drewN ?_ _) | (with_reducible refine Kd.C_drew ?_))); (case side2 => exact (Kd.R_reads' HO1174.out).2.1); (case side3 => repeat (first | exact (Kd.C_below HR1.out HB.out) | (with_reducible refine Kd.C_alloc ?_ _) | (with_reducible refine Kd.C_drewN ?_ _) | (with_reducible refine Kd.C_drew ?_))); (case side4 => exact HC1.out); rintro e w78 ⟨rfl, hb⟩; refine ⟨_, rfl, ?_⟩; have n0_ := Aside0.mk (Kd.R_below (by (with_reducible repeat (first | apply Kd.R_alloc | apply Kd.R_drewN | apply Kd.R_drew)); exact HO1174.out) hb); have n1_ := Aside0.mk (Kd.R_below (by (with_reducible repeat (first | apply Kd.R_alloc | apply Kd.R_drewN | apply Kd.R_drew)); exact HO1177.out) hb); have n2_ := Aside0.mk (Kd.R_below (by (with_reducible repeat (first | apply Kd.R_alloc | apply Kd.R_drewN | apply Kd.R_drew)); exact HO1181.out) hb); have n3_ := Aside0.mk (Kd.R_below (by (with_reducible repeat (first | apply Kd.R_alloc | apply Kd.R_drewN | apply Kd.R_drew)); exact HO1185.out) hb); have n4_ := Aside0.mk (blk_below (g := gb1169) (o := .cells #[.int .u16 a0_0, .int .u16 a0_1] 88 (0, 0)) (by (with_reducible repeat (first | refine blk_drewN ?_ _ | refine blk_drew ?_ | refine blk_alloc ?_ _)); exact BK1169.out) hb); have n5_ := Aside0.mk (below_step (by repeat (first | (with_reducible first | exact HB.out | apply below_alloc | apply pw_below_drewN | apply below_drew1 | refine below_set ?_ GE1169.out) | exact HB.out)) hb); clear HO1174; clear HO1177; clear HO1181; clear HO1185; clear BK1169; clear HB; have HO1174 := n0_; have HO1177 := n1_; have HO1181 := n2_; have HO1185 := n3_; have BK1169 := n4_; have HB := n5_; clear n0_ n1_ n2_ n3_ n4_ n5_; (try clear hb); (try clear hb2); (try clear hk); (try clear hi); obtain ⟨Ao79, co79, eo79⟩ := Kd.R_slice HO1181.out; subst eo79; obtain ⟨Ao80, co80, eo80⟩ := Kd.R_slice HO1185.out; subst eo80))
       go_ret
       exact ⟨by first | rfl | (simp [errW_none, errW_some] <;> rfl) | (simp [*, errW_none, errW_some] <;> rfl), by repeat (first | (with_reducible first | exact HB.out | apply below_alloc | apply pw_below_drewN | apply below_drew1 | refine below_set ?_ GE1169.out) | exact HB.out)⟩
      ·rw [if_neg c70] at H
       have c70b0 : (t1183 == t1186) = false := beq_eq_false_iff_ne.mpr c70
       have c70b1 : (t1183 != t1186) = true := bne_iff_ne.mpr c70
       exact absurd ((Option.some.inj H).trans hr) Bool.false_ne_true
     ·rw [if_neg c69] at H
      have c69b0 : (t1179 == t1186) = false := beq_eq_false_iff_ne.mpr c69
      have c69b1 : (t1179 != t1186) = true := bne_iff_ne.mpr c69
      exact absurd ((Option.some.inj H).trans hr) Bool.false_ne_true
end Go.Proofs.YtccebdpjdpjgnaaGreatDoor.P
