/-
parts of the walks and of the plain laws: ExtFar PprimeFactor Pprimefits
-/
import Derived.Test.YtccebdpjdpjgnaaGreatDoorPE32
set_option linter.unusedVariables false
set_option linter.unusedSimpArgs false
section
namespace Go.Proofs.YtccebdpjdpjgnaaGreatDoor.P
open Go.RowKit Go.Proofs.YtccebdpjdpjgnaaGreatDoorW.PrintWords Go.Proofs.YtccebdpjdpjgnaaGreatDoorW.PrintLast Go.Proofs.YtccebdpjdpjgnaaGreatDoorW.PrintMore
def farEntry (x : Int) : Bool := decide (x > 1000) || decide (x < -1000)
theorem far_lit (x : Int) (w : World) : Calls Tryz.prog 188 #[.int .i64 x] w fun e w' => e = .returned (.bool (farEntry x)) ∧ ∃ q, w' = w.drewN q := by
 unfold farEntry
 go_enter Tryz.func188, Tryz.ntmps188
 go_wp2
 all_goals
  go_ret
  refine ⟨?_, 0, rfl⟩
  by_cases h1 : 1000 < x
  ·first | omega | simp [h1]
  ·by_cases h2 : x < -1000
   ·first | omega | simp [h1, h2]
   ·first | omega | simp [h1, h2]
theorem row_lit (x : Int) (w : World) : Calls Tryz.prog 131 #[.int .i64 x] w fun e w' => e = .returned (.bool (farEntry x)) ∧ ∃ q, w' = w.drewN q := by
 unfold farEntry
 go_enter Tryz.func131, Tryz.ntmps131
 go_wp2
 all_goals
  go_ret
  refine ⟨?_, 0, rfl⟩
  by_cases h1 : 1000 < x
  ·first | omega | simp [h1]
  ·by_cases h2 : x < -1000
   ·first | omega | simp [h1, h2]
   ·first | omega | simp [h1, h2]
theorem contains_lit (g : Nat) (pe : Int → Bool) (hg : ∀ (x : Int) (w : World), Calls Tryz.prog g #[.int .i64 x] w fun e w' => e = .returned (.bool (pe x)) ∧ ∃ q, w' = w.drewN q) (eg : ∀ args w, (callFunc g args).run Tryz.prog w = .ok (.enter g args) w)
  (A0 : Option Addr) (c0 : Nat) (l0 : List Int) (w : World) (hr0 : Kd.C (Kd.int .i64) w A0 l0.length l0) (hc0 : l0.length ≤ c0) :
  Calls Tryz.prog 130 #[.slice A0 l0.length c0, .func (.func g) #[] #[]] w fun e w' => e = .returned (.bool (l0.any pe)) ∧ Below w.heap.size w w' := by
 by_cases h0 : l0.length = 0
 ·obtain rfl := List.length_eq_zero_iff.1 h0
  refine (AnyE.slices_ContainsFunc_empty Tryz.lays130 A0 c0 (.func (.func g) #[] #[]) w).mono ?_
  rintro e w' ⟨rfl, rfl⟩
  exact ⟨rfl, Below.refl _ _⟩
 ·obtain ⟨b, o, rfl, hbk, hcells⟩ := C_flat hr0 (by omega)
  have := AnyE.slices_ContainsFunc Tryz.lays130 (α := Int) (Value.int .i64) pe g #[] eg b o l0.length c0 l0 w (fun W x _ => hg x W) (Nat.le_refl _) hr0.2.1 (fun j hj => by
   have := hcells j (l0[j]!) (by rw [List.getElem?_eq_getElem hj, getElem!_pos l0 j hj])
   exact this)
  rw [List.take_length] at this
  refine this.mono ?_
  rintro e w' ⟨rfl, q, rfl⟩
  exact ⟨rfl, pw_below_drewN (Below.refl _ _) q⟩
def prime_far.f (l0 : List Int) : Option Bool := some (l0.any farEntry)
theorem prime_far.calls (A0 : Option Addr) (c0 : Nat) (l0 : List Int) (r : Bool) (w : World) (hr0 : Kd.C (Kd.int .i64) w A0 l0.length l0) (hc0 : l0.length ≤ c0) (h : prime_far.f l0 = some r) :
  Calls Tryz.prog 139 #[.slice A0 l0.length c0] w fun e w' => e = .returned (.bool r) ∧ Below w.heap.size w w' := by
 have hcon := contains_lit 188 farEntry far_lit (enters_ Tryz.func188 rfl rfl) A0 c0 l0 w hr0 hc0
 unfold prime_far.f at h
 injection h with h
 subst h
 generalize l0.any farEntry = r at hcon ⊢
 clear hr0
 go_enter Tryz.func139, Tryz.ntmps139
 go_wp2_with fail
 refine hcon.mono ?_
 rintro e w1 ⟨rfl, hb1⟩
 go_wp2
 go_ret
 exact ⟨rfl, by repeat (first | (with_reducible first | exact hb1 | apply below_alloc | apply pw_below_drewN | apply below_drew1) | exact hb1)⟩
def schismalaw11_checkRow.f (l0 l1 : List Int) : Option Int := some (if l1.length = l0.length then (if l1.any farEntry = true then 4 else 0) else 5)
theorem schismalaw11_checkRow.calls (A0 : Option Addr) (c0 : Nat) (l0 : List Int) (A1 : Option Addr) (c1 : Nat) (l1 : List Int) (r : Int) (w : World) (hr0 : Kd.C (Kd.int .i64) w A0 l0.length l0) (hc0 : l0.length ≤ c0) (hr1 : Kd.C (Kd.int .i64) w A1 l1.length l1) (hc1 : l1.length ≤ c1) (h : schismalaw11_checkRow.f l0 l1 = some r) :
  Calls Tryz.prog 69 #[.slice A0 l0.length c0, .slice A1 l1.length c1] w fun e w' => e = .returned (.int .i64 r) ∧ Below w.heap.size w w' := by
 have hlen0 : l0.length ≤ 9223372036854775807 := hr0.2.1
 have hlen1 : l1.length ≤ 9223372036854775807 := hr1.2.1
 have hcon := contains_lit 131 farEntry row_lit (enters_ Tryz.func131 rfl rfl) A1 c1 l1 w hr1 hc1
 unfold schismalaw11_checkRow.f at h
 injection h with h
 by_cases h1 : l1.length = l0.length
 ·rw [if_pos h1] at h
  have d1 : ((l1.length : Int) != (l0.length : Int)) = false := by rw [bne_eq_false_iff_eq]; omega
  by_cases h2 : l1.any farEntry = true
  ·rw [if_pos h2] at h
   subst h
   rw [h2] at hcon
   clear hr0 hr1 h1 h2
   go_enter Tryz.func69, Tryz.ntmps69
   go_wp2_with fail
   refine hcon.mono ?_
   rintro e w1 ⟨rfl, hb1⟩
   go_wp2
   go_ret
   exact ⟨rfl, by repeat (first | (with_reducible first | exact hb1 | apply below_alloc | apply pw_below_drewN | apply below_drew1) | exact hb1)⟩
  ·rw [if_neg h2] at h
   subst h
   rw [Bool.not_eq_true] at h2
   rw [h2] at hcon
   clear hr0 hr1 h1 h2
   go_enter Tryz.func69, Tryz.ntmps69
   go_wp2_with fail
   refine hcon.mono ?_
   rintro e w1 ⟨rfl, hb1⟩
   go_wp2
   go_ret
   exact ⟨rfl, by repeat (first | (with_reducible first | exact hb1 | apply below_alloc | apply pw_below_drewN | apply below_drew1) | exact hb1)⟩
 ·rw [if_neg h1] at h
  subst h
  have d1 : ((l1.length : Int) != (l0.length : Int)) = true := by rw [bne_iff_ne]; omega
  clear hcon hr0 hr1 h1
  go_enter Tryz.func69, Tryz.ntmps69
  go_wp2_with fail
  go_ret
  exact ⟨rfl, by first | exact Below.refl _ _ | exact pw_below_drewN (Below.refl _ _) _⟩
end Go.Proofs.YtccebdpjdpjgnaaGreatDoor.P
end
section
namespace Go.Proofs.YtccebdpjdpjgnaaGreatDoor.P
open Go.RowKit Go.Proofs.YtccebdpjdpjgnaaGreatDoorW.PrintWords Go.Proofs.YtccebdpjdpjgnaaGreatDoorW.PrintLast Go.Proofs.YtccebdpjdpjgnaaGreatDoorW.PrintMore
attribute [local go_sem] max2_int min2_int max_two min_two max_three min_three max_four min_four
def prime_Factor.f (k : Nat) (l0 : List Int) (a1_0 : ByteArray) (a1_1 : ByteArray) : Option (List Int × Int) := (prime_open.f k l0 a1_0 a1_1).bind fun t1051 => (if t1051 = 0 then ((fraction_Sign.f a1_0 a1_1).bind fun t1052 => (if t1052 ≤ 0 then (some (([] : List Int), 3)) else ((prime_factor.f k l0 a1_0 a1_1).bind fun bt1053 => (if bt1053.2 = true then ((prime_far.f bt1053.1).bind fun t1057 => (if t1057 = true then (some (([] : List Int), 4)) else (some (bt1053.1, 0)))) else (some (([] : List Int), 25)))))) else (some (([] : List Int), t1051)))
theorem prime_Factor.mono : ∀ a0 a1 a2 k, LeO (prime_Factor.f k a0 a1 a2) (prime_Factor.f (k + 1) a0 a1 a2) := by
 intro a0 a1 a2 k
 unfold prime_Factor.f
 repeat' first
   | (with_reducible exact prime_factor.mono _ _ _ _)
   | (with_reducible exact prime_open.mono _ _ _ _)
   | (with_reducible exact LeO.refl _)
   | (with_reducible exact LeO.none _)
   | (with_reducible refine LeO.ite ?_ ?_)
   | (with_reducible refine LeO.bind ?_ (fun _ => ?_))
   | exact prime_factor.mono _ _ _ _
   | exact prime_open.mono _ _ _ _
   | exact LeO.none _
   | refine LeO.ite ?_ ?_
   | refine LeO.bind ?_ (fun _ => ?_)
set_option maxHeartbeats 8000000 in
set_option maxRecDepth 100000 in
theorem prime_Factor.calls (k : Nat) (A0 : Option Addr) (c0 : Nat) (l0 : List Int) (a1_0 : ByteArray) (a1_1 : ByteArray) (r1 : List Int) (r2 : Int) (w : World) (hT : TabW w) (hr0 : Kd.C (Kd.int .i64) w A0 l0.length l0) (hc0 : l0.length ≤ c0) (h : prime_Factor.f k l0 a1_0 a1_1 = some (r1, r2)) :
  Calls Tryz.prog 78 #[.slice A0 l0.length c0, .agg #[.string a1_0, .string a1_1]] w fun e w' => ∃ v0_ : Value, e = .returned (.tuple #[v0_, .int .i64 r2]) ∧ Kd.R (Kd.int .i64) 3 w' w.heap.size (fun _ => True) v0_ r1 ∧ Below w.heap.size w w' := by
 have hu38 := Tryz.underlying38
 have HR0 := Aside0.mk hr0
 have HC0 := Aside0.mk hc0
 clear hr0 hc0
 have HB := Aside0.mk (Below.refl w.heap.size w)
 have H : ((prime_open.f k l0 a1_0 a1_1).bind fun t1051 => (if t1051 = 0 then ((fraction_Sign.f a1_0 a1_1).bind fun t1052 => (if t1052 ≤ 0 then (some (([] : List Int), 3)) else ((prime_factor.f k l0 a1_0 a1_1).bind fun bt1053 => (if bt1053.2 = true then ((prime_far.f bt1053.1).bind fun t1057 => (if t1057 = true then (some (([] : List Int), 4)) else (some (bt1053.1, 0)))) else (some (([] : List Int), 25)))))) else (some (([] : List Int), t1051)))) = some (r1, r2) := h
 clear h
 replace H := Option.bind_eq_some_iff.mp H
 obtain ⟨t1051, A30, H⟩ := H
 replace H : (if t1051 = 0 then ((fraction_Sign.f a1_0 a1_1).bind fun t1052 => (if t1052 ≤ 0 then (some (([] : List Int), 3)) else ((prime_factor.f k l0 a1_0 a1_1).bind fun bt1053 => (if bt1053.2 = true then ((prime_far.f bt1053.1).bind fun t1057 => (if t1057 = true then (some (([] : List Int), 4)) else (some (bt1053.1, 0)))) else (some (([] : List Int), 25)))))) else (some (([] : List Int), t1051))) = some (r1, r2) := H
 have A3 := Aside0.mk A30
 clear A30
 by_cases c4 : t1051 = 0
 ·rw [if_pos c4] at H
  have c4b0 : (t1051 == 0) = true := beq_iff_eq.mpr c4
  have c4b1 : (t1051 != 0) = false := bne_eq_false_iff_eq.mpr c4
  clear c4
  replace H := Option.bind_eq_some_iff.mp H
  obtain ⟨t1052, A50, H⟩ := H
  replace H : (if t1052 ≤ 0 then (some (([] : List Int), 3)) else ((prime_factor.f k l0 a1_0 a1_1).bind fun bt1053 => (if bt1053.2 = true then ((prime_far.f bt1053.1).bind fun t1057 => (if t1057 = true then (some (([] : List Int), 4)) else (some (bt1053.1, 0)))) else (some (([] : List Int), 25))))) = some (r1, r2) := H
  have A5 := Aside0.mk A50
  clear A50
  by_cases c6 : t1052 ≤ 0
  ·rw [if_pos c6] at H
   have c6b0 : decide (t1052 ≤ 0) = true := decide_eq_true c6
   clear c6
   simp only [Option.some.injEq, Prod.mk.injEq] at H
   obtain ⟨rfl, rfl⟩ := H
   go_enter Tryz.func78, Tryz.ntmps78
   go_wp2_with (first | ((with_reducible refine gate_dst (N := 3) rfl ?_); refine box_event ?hg (N := 3) ?hd (cs := #[.string a1_0, .string a1_1]) (t := 38) ?hr ?_; (case hd => rfl); (case hg => rfl); (case hr => first | (go_simp; done) | (go_simp; rfl)); intro gb1050 hg w7 hbox hb; have n0_ := Aside0.mk (below_step (by repeat (first | (with_reducible first | exact HB.out | apply below_alloc | apply pw_below_drewN | apply below_drew1) | exact HB.out)) hb); have n1_ := Aside0.mk (hbox); have n2_ := Aside0.mk ((by rw [hg]; exact (below_size (by repeat (first | (with_reducible first | exact HB.out | apply below_alloc | apply pw_below_drewN | apply below_drew1) | exact HB.out))) : w.heap.size ≤ gb1050)); have n3_ := Aside0.mk ((by rw [hg]; exact (below_size (by repeat (first | (with_reducible first | exact HB.out | apply below_alloc | apply pw_below_drewN | apply below_drew1) | exact HB.out))) : w.heap.size ≤ gb1050)); clear HB; have HB := n0_; have BK1050 := n1_; have GW1050 := n2_; have GE1050 := n3_; clear n0_ n1_ n2_ n3_; clear hb hbox hg; have hcz8_0 : w7.cell? ⟨gb1050, 0, none⟩ = some (.string a1_0) := (blk_cell BK1050.out 0).trans rfl; have hcz8_1 : w7.cell? ⟨gb1050, 1, none⟩ = some (.string a1_1) := (blk_cell BK1050.out 1).trans rfl; have hfz8_0 := blk_frozen BK1050.out 0; have hfz8_1 := blk_frozen BK1050.out 1) | ((with_reducible refine gate_callee (f := 137) rfl ?_); refine goesL_ (some 11) rfl rfl Tryz.func137 (by kernel_rfl) rfl #[.slice A0 l0.length c0, .agg #[.string a1_0, .string a1_1]] rfl (by (try simp only [List.map_toArray, List.map_cons, List.map_nil]); first | done | rfl | (simp only [List.length_drop, List.length_take]; rfl)) ?_; (with_reducible refine (prime_open.calls k _ _ l0 a1_0 a1_1 t1051 _ ?side1 ?side2 ?side3 A3.out).mono ?_); (case side1 => refine TabW.below hT ?_; repeat (first | (with_reducible first | exact HB.out | apply below_alloc | apply pw_below_drewN | apply below_drew1 | refine below_set ?_ GE1050.out) | exact HB.out)); (case side2 => repeat (first | exact (Kd.C_below HR0.out HB.out) | (with_reducible refine Kd.C_alloc ?_ _) | (with_reducible refine Kd.C_drewN ?_ _) | (with_reducible refine Kd.C_drew ?_))); (case side3 => exact HC0.out); rintro e w9 ⟨rfl, hb⟩; refine ⟨_, rfl, ?_⟩; have n0_ := Aside0.mk (blk_below (g := gb1050) (o := .cells #[.string a1_0, .string a1_1] 38 (0, 0)) (by (with_reducible repeat (first | refine blk_drewN ?_ _ | refine blk_drew ?_ | refine blk_alloc ?_ _)); exact BK1050.out) hb); have n1_ := Aside0.mk (below_step (by repeat (first | (with_reducible first | exact HB.out | apply below_alloc | apply pw_below_drewN | apply below_drew1 | refine below_set ?_ GE1050.out) | exact HB.out)) hb); clear BK1050; clear HB; have BK1050 := n0_; have HB := n1_; clear n0_ n1_; (try clear hb); (try clear hb2); (try clear hk); (try clear hi); have hcz10_0 : w9.cell? ⟨gb1050, 0, none⟩ = some (.string a1_0) := (blk_cell BK1050.out 0).trans rfl; have hcz10_1 : w9.cell? ⟨gb1050, 1, none⟩ = some (.string a1_1) := (blk_cell BK1050.out 1).trans rfl; have hfz10_0 := blk_frozen BK1050.out 0; have hfz10_1 := blk_frozen BK1050.out 1) | ((with_reducible refine gate_callee (f := 99) rfl ?_); refine goesL_ (some 16) rfl rfl Tryz.func99 (by kernel_rfl) rfl #[.agg #[.string a1_0, .string a1_1]] rfl (by (try simp only [List.map_toArray, List.map_cons, List.map_nil]); first | done | rfl | (simp only [List.length_drop, List.length_take]; rfl)) ?_; (with_reducible refine (fraction_Sign.calls a1_0 a1_1 t1052 _ A5.out).mono ?_); rintro e w11 ⟨rfl, hb⟩; refine ⟨_, rfl, ?_⟩; have n0_ := Aside0.mk (blk_below (g := gb1050) (o := .cells #[.string a1_0, .string a1_1] 38 (0, 0)) (by (with_reducible repeat (first | refine blk_drewN ?_ _ | refine blk_drew ?_ | refine blk_alloc ?_ _)); exact BK1050.out) hb); have n1_ := Aside0.mk (below_step (by repeat (first | (with_reducible first | exact HB.out | apply below_alloc | apply pw_below_drewN | apply below_drew1 | refine below_set ?_ GE1050.out) | exact HB.out)) hb); clear BK1050; clear HB; have BK1050 := n0_; have HB := n1_; clear n0_ n1_; (try clear hb); (try clear hb2); (try clear hk); (try clear hi)))
   go_ret2
   exact ⟨(.slice none 0 0), by first | rfl | (simp [errW_none, errW_some] <;> rfl) | (simp [*, errW_none, errW_some] <;> rfl), by first | exact Kd.R_nil _ _ _ _ _ | exact Kd.N_nil _ _ _ _ _ | exact Kd.V_nil _ _ _ _ _ | exact Kd.Q_nil _ _ _ _ _ | exact Kd.S_nil _ _ _ _ _, by repeat (first | (with_reducible first | exact HB.out | apply below_alloc | apply pw_below_drewN | apply below_drew1 | refine below_set ?_ GE1050.out) | exact HB.out)⟩
  ·rw [if_neg c6] at H
   have c6b0 : decide (t1052 ≤ 0) = false := decide_eq_false c6
   clear c6
   replace H := Option.bind_eq_some_iff.mp H
   obtain ⟨⟨t1053, t1056⟩, A120, H⟩ := H
   replace H : (if t1056 = true then ((prime_far.f t1053).bind fun t1057 => (if t1057 = true then (some (([] : List Int), 4)) else (some (t1053, 0)))) else (some (([] : List Int), 25))) = some (r1, r2) := H
   have A12 := Aside0.mk A120
   clear A120
   by_cases c13 : t1056 = true
   ·subst c13
    have H1 : ((prime_far.f t1053).bind fun t1057 => (if t1057 = true then (some (([] : List Int), 4)) else (some (t1053, 0)))) = some (r1, r2) := by rw [if_pos rfl] at H; exact H
    clear H
    have H := H1
    clear H1
    replace H := Option.bind_eq_some_iff.mp H
    obtain ⟨t1057, A140, H⟩ := H
    replace H : (if t1057 = true then (some (([] : List Int), 4)) else (some (t1053, 0))) = some (r1, r2) := H
    have A14 := Aside0.mk A140
    clear A140
    by_cases c15 : t1057 = true
    ·subst c15
     have H1 : (some (([] : List Int), 4)) = some (r1, r2) := by rw [if_pos rfl] at H; exact H
     clear H
     have H := H1
     clear H1
     simp only [Option.some.injEq, Prod.mk.injEq] at H
     obtain ⟨rfl, rfl⟩ := H
     go_enter Tryz.func78, Tryz.ntmps78
     go_wp2_with (first | ((with_reducible refine gate_dst (N := 3) rfl ?_); refine box_event ?hg (N := 3) ?hd (cs := #[.string a1_0, .string a1_1]) (t := 38) ?hr ?_; (case hd => rfl); (case hg => rfl); (case hr => first | (go_simp; done) | (go_simp; rfl)); intro gb1050 hg w16 hbox hb; have n0_ := Aside0.mk (below_step (by repeat (first | (with_reducible first | exact HB.out | apply below_alloc | apply pw_below_drewN | apply below_drew1) | exact HB.out)) hb); have n1_ := Aside0.mk (hbox); have n2_ := Aside0.mk ((by rw [hg]; exact (below_size (by repeat (first | (with_reducible first | exact HB.out | apply below_alloc | apply pw_below_drewN | apply below_drew1) | exact HB.out))) : w.heap.size ≤ gb1050)); have n3_ := Aside0.mk ((by rw [hg]; exact (below_size (by repeat (first | (with_reducible first | exact HB.out | apply below_alloc | apply pw_below_drewN | apply below_drew1) | exact HB.out))) : w.heap.size ≤ gb1050)); clear HB; have HB := n0_; have BK1050 := n1_; have GW1050 := n2_; have GE1050 := n3_; clear n0_ n1_ n2_ n3_; clear hb hbox hg; have hcz17_0 : w16.cell? ⟨gb1050, 0, none⟩ = some (.string a1_0) := (blk_cell BK1050.out 0).trans rfl; have hcz17_1 : w16.cell? ⟨gb1050, 1, none⟩ = some (.string a1_1) := (blk_cell BK1050.out 1).trans rfl; have hfz17_0 := blk_frozen BK1050.out 0; have hfz17_1 := blk_frozen BK1050.out 1) | ((with_reducible refine gate_callee (f := 137) rfl ?_); refine goesL_ (some 11) rfl rfl Tryz.func137 (by kernel_rfl) rfl #[.slice A0 l0.length c0, .agg #[.string a1_0, .string a1_1]] rfl (by (try simp only [List.map_toArray, List.map_cons, List.map_nil]); first | done | rfl | (simp only [List.length_drop, List.length_take]; rfl)) ?_; (with_reducible refine (prime_open.calls k _ _ l0 a1_0 a1_1 t1051 _ ?side1 ?side2 ?side3 A3.out).mono ?_); (case side1 => refine TabW.below hT ?_; repeat (first | (with_reducible first | exact HB.out | apply below_alloc | apply pw_below_drewN | apply below_drew1 | refine below_set ?_ GE1050.out) | exact HB.out)); (case side2 => repeat (first | exact (Kd.C_below HR0.out HB.out) | (with_reducible refine Kd.C_alloc ?_ _) | (with_reducible refine Kd.C_drewN ?_ _) | (with_reducible refine Kd.C_drew ?_))); (case side3 => exact HC0.out); rintro e w18 ⟨rfl, hb⟩; refine ⟨_, rfl, ?_⟩; have n0_ := Aside0.mk (blk_below (g := gb1050) (o := .cells #[.string a1_0, .string a1_1] 38 (0, 0)) (by (with_reducible repeat (first | refine blk_drewN ?_ _ | refine blk_drew ?_ | refine blk_alloc ?_ _)); exact BK1050.out) hb); have n1_ := Aside0.mk (below_step (by repeat (first | (with_reducible first | exact HB.out | apply below_alloc | apply pw_below_drewN | apply below_drew1 | refine below_set ?_ GE1050.out) | exact HB.out)) hb); clear BK1050; clear HB; have BK1050 := n0_; have HB := n1_; clear n0_ n1_; (try clear hb); (try clear hb2); (try clear hk); (try clear hi); have hcz19_0 : w18.cell? ⟨gb1050, 0, none⟩ = some (.string a1_0) := (blk_cell BK1050.out 0).trans rfl; have hcz19_1 : w18.cell? ⟨gb1050, 1, none⟩ = some (.string a1_1) := (blk_cell BK1050.out 1).trans rfl; have hfz19_0 := blk_frozen BK1050.out 0; have hfz19_1 := blk_frozen BK1050.out 1) | ((with_reducible refine gate_callee (f := 99) rfl ?_); refine goesL_ (some 16) rfl rfl Tryz.func99 (by kernel_rfl) rfl #[.agg #[.string a1_0, .string a1_1]] rfl (by (try simp only [List.map_toArray, List.map_cons, List.map_nil]); first | done | rfl | (simp only [List.length_drop, List.length_take]; rfl)) ?_; (with_reducible refine (fraction_Sign.calls a1_0 a1_1 t1052 _ A5.out).mono ?_); rintro e w20 ⟨rfl, hb⟩; refine ⟨_, rfl, ?_⟩; have n0_ := Aside0.mk (blk_below (g := gb1050) (o := .cells #[.string a1_0, .string a1_1] 38 (0, 0)) (by (with_reducible repeat (first | refine blk_drewN ?_ _ | refine blk_drew ?_ | refine blk_alloc ?_ _)); exact BK1050.out) hb); have n1_ := Aside0.mk (below_step (by repeat (first | (with_reducible first | exact HB.out | apply below_alloc | apply pw_below_drewN | apply below_drew1 | refine below_set ?_ GE1050.out) | exact HB.out)) hb); clear BK1050; clear HB; have BK1050 := n0_; have HB := n1_; clear n0_ n1_; (try clear hb); (try clear hb2); (try clear hk); (try clear hi); have hcz21_0 : w20.cell? ⟨gb1050, 0, none⟩ = some (.string a1_0) := (blk_cell BK1050.out 0).trans rfl; have hcz21_1 : w20.cell? ⟨gb1050, 1, none⟩ = some (.string a1_1) := (blk_cell BK1050.out 1).trans rfl; have hfz21_0 := blk_frozen BK1050.out 0; have hfz21_1 := blk_frozen BK1050.out 1) | ((with_reducible refine gate_callee (f := 138) rfl ?_); refine goesL_ (some 21) rfl rfl Tryz.func138 (by kernel_rfl) rfl #[.slice A0 l0.length c0, .agg #[.string a1_0, .string a1_1]] rfl (by (try simp only [List.map_toArray, List.map_cons, List.map_nil]); first | done | rfl | (simp only [List.length_drop, List.length_take]; rfl)) ?_; (with_reducible refine (prime_factor.calls k _ _ l0 a1_0 a1_1 t1053 true _ ?side1 ?side2 ?side3 A12.out).mono ?_); (case side1 => refine TabW.below hT ?_; repeat (first | (with_reducible first | exact HB.out | apply below_alloc | apply pw_below_drewN | apply below_drew1 | refine below_set ?_ GE1050.out) | exact HB.out)); (case side2 => repeat (first | exact (Kd.C_below HR0.out HB.out) | (with_reducible refine Kd.C_alloc ?_ _) | (with_reducible refine Kd.C_drewN ?_ _) | (with_reducible refine Kd.C_drew ?_))); (case side3 => exact HC0.out); rintro e w22 ⟨v1054, rfl, ho0, hb⟩; refine ⟨_, rfl, ?_⟩; have n0_ := Aside0.mk (Kd.R_lower ho0 (below_size (by repeat (first | (with_reducible first | exact HB.out | apply below_alloc | apply pw_below_drewN | apply below_drew1 | refine below_set ?_ GE1050.out) | exact HB.out)))); have n1_ := Aside0.mk (blk_below (g := gb1050) (o := .cells #[.string a1_0, .string a1_1] 38 (0, 0)) (by (with_reducible repeat (first | refine blk_drewN ?_ _ | refine blk_drew ?_ | refine blk_alloc ?_ _)); exact BK1050.out) hb); have n2_ := Aside0.mk (below_step (by repeat (first | (with_reducible first | exact HB.out | apply below_alloc | apply pw_below_drewN | apply below_drew1 | refine below_set ?_ GE1050.out) | exact HB.out)) hb); clear BK1050; clear HB; have HO1055 := n0_; have BK1050 := n1_; have HB := n2_; clear n0_ n1_ n2_; (try clear hb); (try clear hb2); (try clear hk); (try clear hi); (try clear ho0); obtain ⟨Ao23, co23, eo23⟩ := Kd.R_slice HO1055.out; subst eo23) | ((with_reducible refine gate_callee (f := 139) rfl ?_); refine goesL_ (some 27) rfl rfl Tryz.func139 (by kernel_rfl) rfl #[.slice Ao23 t1053.length co23] rfl (by (try simp only [List.map_toArray, List.map_cons, List.map_nil]); first | done | rfl | (simp only [List.length_drop, List.length_take]; rfl)) ?_; (with_reducible refine (prime_far.calls _ _ t1053 true _ ?side1 ?side2 A14.out).mono ?_); (case side1 => repeat (first | exact (Kd.R_reads' HO1055.out).2.2 | (with_reducible refine Kd.C_alloc ?_ _) | (with_reducible refine Kd.C_drewN ?_ _) | (with_reducible refine Kd.C_drew ?_))); (case side2 => exact (Kd.R_reads' HO1055.out).2.1); rintro e w24 ⟨rfl, hb⟩; refine ⟨_, rfl, ?_⟩; have n0_ := Aside0.mk (Kd.R_below (by (with_reducible repeat (first | apply Kd.R_alloc | apply Kd.R_drewN | apply Kd.R_drew)); exact HO1055.out) hb); have n1_ := Aside0.mk (blk_below (g := gb1050) (o := .cells #[.string a1_0, .string a1_1] 38 (0, 0)) (by (with_reducible repeat (first | refine blk_drewN ?_ _ | refine blk_drew ?_ | refine blk_alloc ?_ _)); exact BK1050.out) hb); have n2_ := Aside0.mk (below_step (by repeat (first | (with_reducible first | exact HB.out | apply below_alloc | apply pw_below_drewN | apply below_drew1 | refine below_set ?_ GE1050.out) | exact HB.out)) hb); clear HO1055; clear BK1050; clear HB; have HO1055 := n0_; have BK1050 := n1_; have HB := n2_; clear n0_ n1_ n2_; (try clear hb); (try clear hb2); (try clear hk); (try clear hi)))
     go_ret2
     exact ⟨(.slice none 0 0), by first | rfl | (simp [errW_none, errW_some] <;> rfl) | (simp [*, errW_none, errW_some] <;> rfl), by first | exact Kd.R_nil _ _ _ _ _ | exact Kd.N_nil _ _ _ _ _ | exact Kd.V_nil _ _ _ _ _ | exact Kd.Q_nil _ _ _ _ _ | exact Kd.S_nil _ _ _ _ _, by repeat (first | (with_reducible first | exact HB.out | apply below_alloc | apply pw_below_drewN | apply below_drew1 | refine below_set ?_ GE1050.out) | exact HB.out)⟩
    ·replace c15 := Bool.eq_false_iff.mpr c15
     subst c15
     have H1 : (some (t1053, 0)) = some (r1, r2) := by rw [if_neg (show ¬ (false = true) by decide)] at H; exact H
     clear H
     have H := H1
     clear H1
     simp only [Option.some.injEq, Prod.mk.injEq] at H
     obtain ⟨rfl, rfl⟩ := H
     go_enter Tryz.func78, Tryz.ntmps78
     go_wp2_with (first | ((with_reducible refine gate_dst (N := 3) rfl ?_); refine box_event ?hg (N := 3) ?hd (cs := #[.string a1_0, .string a1_1]) (t := 38) ?hr ?_; (case hd => rfl); (case hg => rfl); (case hr => first | (go_simp; done) | (go_simp; rfl)); intro gb1050 hg w25 hbox hb; have n0_ := Aside0.mk (below_step (by repeat (first | (with_reducible first | exact HB.out | apply below_alloc | apply pw_below_drewN | apply below_drew1) | exact HB.out)) hb); have n1_ := Aside0.mk (hbox); have n2_ := Aside0.mk ((by rw [hg]; exact (below_size (by repeat (first | (with_reducible first | exact HB.out | apply below_alloc | apply pw_below_drewN | apply below_drew1) | exact HB.out))) : w.heap.size ≤ gb1050)); have n3_ := Aside0.mk ((by rw [hg]; exact (below_size (by repeat (first | (with_reducible first | exact HB.out | apply below_alloc | apply pw_below_drewN | apply below_drew1) | exact HB.out))) : w.heap.size ≤ gb1050)); clear HB; have HB := n0_; have BK1050 := n1_; have GW1050 := n2_; have GE1050 := n3_; clear n0_ n1_ n2_ n3_; clear hb hbox hg; have hcz26_0 : w25.cell? ⟨gb1050, 0, none⟩ = some (.string a1_0) := (blk_cell BK1050.out 0).trans rfl; have hcz26_1 : w25.cell? ⟨gb1050, 1, none⟩ = some (.string a1_1) := (blk_cell BK1050.out 1).trans rfl; have hfz26_0 := blk_frozen BK1050.out 0; have hfz26_1 := blk_frozen BK1050.out 1) | ((with_reducible refine gate_callee (f := 137) rfl ?_); refine goesL_ (some 11) rfl rfl Tryz.func137 (by kernel_rfl) rfl #[.slice A0 l0.length c0, .agg #[.string a1_0, .string a1_1]] rfl (by (try simp only [List.map_toArray, List.map_cons, List.map_nil]); first | done | rfl | (simp only [List.length_drop, List.length_take]; rfl)) ?_; (with_reducible refine (prime_open.calls k _ _ l0 a1_0 a1_1 t1051 _ ?side1 ?side2 ?side3 A3.out).mono ?_); (case side1 => refine TabW.below hT ?_; repeat (first | (with_reducible first | exact HB.out | apply below_alloc | apply pw_below_drewN | apply below_drew1 | refine below_set ?_ GE1050.out) | exact HB.out)); (case side2 => repeat (first | exact (Kd.C_below HR0.out HB.out) | (with_reducible refine Kd.C_alloc ?_ _) | (with_reducible refine Kd.C_drewN ?_ _) | (with_reducible refine Kd.C_drew ?_))); (case side3 => exact HC0.out); rintro e w27 ⟨rfl, hb⟩; refine ⟨_, rfl, ?_⟩; have n0_ := Aside0.mk (blk_below (g := gb1050) (o := .cells #[.string a1_0, .string a1_1] 38 (0, 0)) (by (with_reducible repeat (first | refine blk_drewN ?_ _ | refine blk_drew ?_ | refine blk_alloc ?_ _)); exact BK1050.out) hb); have n1_ := Aside0.mk (below_step (by repeat (first | (with_reducible first | exact HB.out | apply below_alloc | apply pw_below_drewN | apply below_drew1 | refine below_set ?_ GE1050.out) | exact HB.out)) hb); clear BK1050; clear HB; have BK1050 := n0_; have HB := n1_; clear n0_ n1_; (try clear hb); (try clear hb2); (try clear hk); (try clear hi); have hcz28_0 : w27.cell? ⟨gb1050, 0, none⟩ = some (.string a1_0) := (blk_cell BK1050.out 0).trans rfl; have hcz28_1 : w27.cell? ⟨gb1050, 1, none⟩ = some (.string a1_1) := (blk_cell BK1050.out 1).trans rfl; have hfz28_0 := blk_frozen BK1050.out 0; have hfz28_1 := blk_frozen BK1050.out 1) | ((with_reducible refine gate_callee (f := 99) rfl ?_); refine goesL_ (some 16) rfl rfl Tryz.func99 (by kernel_rfl) rfl #[.agg #[.string a1_0, .string a1_1]] rfl (by (try simp only [List.map_toArray, List.map_cons, List.map_nil]); first | done | rfl | (simp only [List.length_drop, List.length_take]; rfl)) ?_; (with_reducible refine (fraction_Sign.calls a1_0 a1_1 t1052 _ A5.out).mono ?_); rintro e w29 ⟨rfl, hb⟩; refine ⟨_, rfl, ?_⟩; have n0_ := Aside0.mk (blk_below (g := gb1050) (o := .cells #[.string a1_0, .string a1_1] 38 (0, 0)) (by (with_reducible repeat (first | refine blk_drewN ?_ _ | refine blk_drew ?_ | refine blk_alloc ?_ _)); exact BK1050.out) hb); have n1_ := Aside0.mk (below_step (by repeat (first | (with_reducible first | exact HB.out | apply below_alloc | apply pw_below_drewN | apply below_drew1 | refine below_set ?_ GE1050.out) | exact HB.out)) hb); clear BK1050; clear HB; have BK1050 := n0_; have HB := n1_; clear n0_ n1_; (try clear hb); (try clear hb2); (try clear hk); (try clear hi); have hcz30_0 : w29.cell? ⟨gb1050, 0, none⟩ = some (.string a1_0) := (blk_cell BK1050.out 0).trans rfl; have hcz30_1 : w29.cell? ⟨gb1050, 1, none⟩ = some (.string a1_1) := (blk_cell BK1050.out 1).trans rfl; have hfz30_0 := blk_frozen BK1050.out 0; have hfz30_1 := blk_frozen BK1050.out 1) | ((with_reducible refine gate_callee (f := 138) rfl ?_); refine goesL_ (some 21) rfl rfl Tryz.func138 (by kernel_rfl) rfl #[.slice A0 l0.length c0, .agg #[.string a1_0, .string a1_1]] rfl (by (try simp only [List.map_toArray, List.map_cons, List.map_nil]); first | done | rfl | (simp only [List.length_drop, List.length_take]; rfl)) ?_; (with_reducible refine (prime_factor.calls k _ _ l0 a1_0 a1_1 t1053 true _ ?side1 ?side2 ?side3 A12.out).mono ?_); (case side1 => refine TabW.below hT ?_; repeat (first | (with_reducible first | exact HB.out | apply below_alloc | apply pw_below_drewN | apply below_drew1 | refine below_set ?_ GE1050.out) | exact HB.out)); (case side2 => repeat (first | exact (Kd.C_below HR0.out HB.out) | (with_reducible refine Kd.C_alloc ?_ _) | (with_reducible refine Kd.C_drewN ?_ _) | (with_reducible refine Kd.C_drew ?_))); (case side3 => exact HC0.out); rintro e w31 ⟨v1054, rfl, ho0, hb⟩; refine ⟨_, rfl, ?_⟩; have n0_ := Aside0.mk (Kd.R_lower ho0 (below_size (by repeat (first | (with_reducible first | exact HB.out | apply below_alloc | apply pw_below_drewN | apply below_drew1 | refine below_set ?_ GE1050.out) | exact HB.out)))); have n1_ := Aside0.mk (blk_below (g := gb1050) (o := .cells #[.string a1_0, .string a1_1] 38 (0, 0)) (by (with_reducible repeat (first | refine blk_drewN ?_ _ | refine blk_drew ?_ | refine blk_alloc ?_ _)); exact BK1050.out) hb); have n2_ := Aside0.mk (below_step (by repeat (first | (with_reducible first | exact HB.out | apply below_alloc | apply pw_below_drewN | apply below_drew1 | refine below_set ?_ GE1050.out) | exact HB.out)) hb); clear BK1050; clear HB; have HO1055 := n0_; have BK1050 := n1_; have HB := n2_; clear n0_ n1_ n2_; (try clear hb); (try clear hb2); (try clear hk); (try clear hi); (try clear ho0); obtain ⟨Ao32, co32, eo32⟩ := Kd.R_slice HO1055.out; subst eo32) | ((with_reducible refine gate_callee (f := 139) rfl ?_); refine goesL_ (some 27) rfl rfl Tryz.func139 (by kernel_rfl) rfl #[.slice Ao32 t1053.length co32] rfl (by (try simp only [List.map_toArray, List.map_cons, List.map_nil]); first | done | rfl | (simp only [List.length_drop, List.length_take]; rfl)) ?_; (with_reducible refine (prime_far.calls _ _ t1053 false _ ?side1 ?side2 A14.out).mono ?_); (case side1 => repeat (first | exact (Kd.R_reads' HO1055.out).2.2 | (with_reducible refine Kd.C_alloc ?_ _) | (with_reducible refine Kd.C_drewN ?_ _) | (with_reducible refine Kd.C_drew ?_))); (case side2 => exact (Kd.R_reads' HO1055.out).2.1); rintro e w33 ⟨rfl, hb⟩; refine ⟨_, rfl, ?_⟩; have n0_ := Aside0.mk (Kd.R_below (by (with_reducible repeat (first | apply Kd.R_alloc | apply Kd.R_drewN | apply Kd.R_drew)); exact HO1055.out) hb); have n1_ := Aside0.mk (blk_below (g := gb1050) (o := .cells #[.string a1_0, .string a1_1] 38 (0, 0)) (by (with_reducible repeat (first | refine blk_drewN ?_ _ | refine blk_drew ?_ | refine blk_alloc ?_ _)); exact BK1050.out) hb); have n2_ := Aside0.mk (below_step (by repeat (first | (with_reducible first | exact HB.out | apply below_alloc | apply pw_below_drewN | apply below_drew1 | refine below_set ?_ GE1050.out) | exact HB.out)) hb); clear HO1055; clear BK1050; clear HB; have HO1055 := n0_; have BK1050 := n1_; have HB := n2_; clear n0_ n1_ n2_; (try clear hb); (try clear hb2); (try clear hk); (try clear hi)))
     go_ret2
     exact ⟨_, by first | rfl | (simp [errW_none, errW_some] <;> rfl) | (simp [*, errW_none, errW_some] <;> rfl), by (with_reducible repeat (first | apply Kd.R_alloc | apply Kd.R_drewN | apply Kd.R_drew)); exact HO1055.out, by repeat (first | (with_reducible first | exact HB.out | apply below_alloc | apply pw_below_drewN | apply below_drew1 | refine below_set ?_ GE1050.out) | exact HB.out)⟩
   ·replace c13 := Bool.eq_false_iff.mpr c13
    subst c13
    have H1 : (some (([] : List Int), 25)) = some (r1, r2) := by rw [if_neg (show ¬ (false = true) by decide)] at H; exact H
    clear H
    have H := H1
    clear H1
    simp only [Option.some.injEq, Prod.mk.injEq] at H
    obtain ⟨rfl, rfl⟩ := H
    go_enter Tryz.func78, Tryz.ntmps78
    go_wp2_with (first | ((with_reducible refine gate_dst (N := 3) rfl ?_); refine box_event ?hg (N := 3) ?hd (cs := #[.string a1_0, .string a1_1]) (t := 38) ?hr ?_; (case hd => rfl); (case hg => rfl); (case hr => first | (go_simp; done) | (go_simp; rfl)); intro gb1050 hg w34 hbox hb; have n0_ := Aside0.mk (below_step (by repeat (first | (with_reducible first | exact HB.out | apply below_alloc | apply pw_below_drewN | apply below_drew1) | exact HB.out)) hb); have n1_ := Aside0.mk (hbox); have n2_ := Aside0.mk ((by rw [hg]; exact (below_size (by repeat (first | (with_reducible first | exact HB.out | apply below_alloc | apply pw_below_drewN | apply below_drew1) | exact HB.out))) : w.heap.size ≤ gb1050)); have n3_ := Aside0.mk ((by rw [hg]; exact (below_size (by repeat (first | (with_reducible first | exact HB.out | apply below_alloc | apply pw_below_drewN | apply below_drew1) | exact HB.out))) : w.heap.size ≤ gb1050)); clear HB; have HB := n0_; have BK1050 := n1_; have GW1050 := n2_; have GE1050 := n3_; clear n0_ n1_ n2_ n3_; clear hb hbox hg; have hcz35_0 : w34.cell? ⟨gb1050, 0, none⟩ = some (.string a1_0) := (blk_cell BK1050.out 0).trans rfl; have hcz35_1 : w34.cell? ⟨gb1050, 1, none⟩ = some (.string a1_1) := (blk_cell BK1050.out 1).trans rfl; have hfz35_0 := blk_frozen BK1050.out 0; have hfz35_1 := blk_frozen BK1050.out 1) | ((with_reducible refine gate_callee (f := 137) rfl ?_); refine goesL_ (some 11) rfl rfl Tryz.func137 (by kernel_rfl) rfl #[.slice A0 l0.length c0, .agg #[.string a1_0, .string a1_1]] rfl (by (try simp only [List.map_toArray, List.map_cons, List.map_nil]); first | done | rfl | (simp only [List.length_drop, List.length_take]; rfl)) ?_; (with_reducible refine (prime_open.calls k _ _ l0 a1_0 a1_1 t1051 _ ?side1 ?side2 ?side3 A3.out).mono ?_); (case side1 => refine TabW.below hT ?_; repeat (first | (with_reducible first | exact HB.out | apply below_alloc | apply pw_below_drewN | apply below_drew1 | refine below_set ?_ GE1050.out) | exact HB.out)); (case side2 => repeat (first | exact (Kd.C_below HR0.out HB.out) | (with_reducible refine Kd.C_alloc ?_ _) | (with_reducible refine Kd.C_drewN ?_ _) | (with_reducible refine Kd.C_drew ?_))); (case side3 => exact HC0.out); rintro e w36 ⟨rfl, hb⟩; refine ⟨_, rfl, ?_⟩; have n0_ := Aside0.mk (blk_below (g := gb1050) (o := .cells #[.string a1_0, .string a1_1] 38 (0, 0)) (by (with_reducible repeat (first | refine blk_drewN ?_ _ | refine blk_drew ?_ | refine blk_alloc ?_ _)); exact BK1050.out) hb); have n1_ := Aside0.mk (below_step (by repeat (first | (with_reducible first | exact HB.out | apply below_alloc | apply pw_below_drewN | apply below_drew1 | refine below_set ?_ GE1050.out) | exact HB.out)) hb); clear BK1050; clear HB; have BK1050 := n0_; have HB := n1_; clear n0_ n1_; (try clear hb); (try clear hb2); (try clear hk); (try clear hi); have hcz37_0 : w36.cell? ⟨gb1050, 0, none⟩ = some (.string a1_0) := (blk_cell BK1050.out 0).trans rfl; have hcz37_1 : w36.cell? ⟨gb1050, 1, none⟩ = some (.string a1_1) := (blk_cell BK1050.out 1).trans rfl; have hfz37_0 := blk_frozen BK1050.out 0; have hfz37_1 := blk_frozen BK1050.out 1) | ((with_reducible refine gate_callee (f := 99) rfl ?_); refine goesL_ (some 16) rfl rfl Tryz.func99 (by kernel_rfl) rfl #[.agg #[.string a1_0, .string a1_1]] rfl (by (try simp only [List.map_toArray, List.map_cons, List.map_nil]); first | done | rfl | (simp only [List.length_drop, List.length_take]; rfl)) ?_; (with_reducible refine (fraction_Sign.calls a1_0 a1_1 t1052 _ A5.out).mono ?_); rintro e w38 ⟨rfl, hb⟩; refine ⟨_, rfl, ?_⟩; have n0_ := Aside0.mk (blk_below (g := gb1050) (o := .cells #[.string a1_0, .string a1_1] 38 (0, 0)) (by (with_reducible repeat (first | refine blk_drewN ?_ _ | refine blk_drew ?_ | refine blk_alloc ?_ _)); exact BK1050.out) hb); have n1_ := Aside0.mk (below_step (by repeat (first | (with_reducible first | exact HB.out | apply below_alloc | apply pw_below_drewN | apply below_drew1 | refine below_set ?_ GE1050.out) | exact HB.out)) hb); clear BK1050; clear HB; have BK1050 := n0_; have HB := n1_; clear n0_ n1_; (try clear hb); (try clear hb2); (try clear hk); (try clear hi); have hcz39_0 : w38.cell? ⟨gb1050, 0, none⟩ = some (.string a1_0) := (blk_cell BK1050.out 0).trans rfl; have hcz39_1 : w38.cell? ⟨gb1050, 1, none⟩ = some (.string a1_1) := (blk_cell BK1050.out 1).trans rfl; have hfz39_0 := blk_frozen BK1050.out 0; have hfz39_1 := blk_frozen BK1050.out 1) | ((with_reducible refine gate_callee (f := 138) rfl ?_); refine goesL_ (some 21) rfl rfl Tryz.func138 (by kernel_rfl) rfl #[.slice A0 l0.length c0, .agg #[.string a1_0, .string a1_1]] rfl (by (try simp only [List.map_toArray, List.map_cons, List.map_nil]); first | done | rfl | (simp only [List.length_drop, List.length_take]; rfl)) ?_; (with_reducible refine (prime_factor.calls k _ _ l0 a1_0 a1_1 t1053 false _ ?side1 ?side2 ?side3 A12.out).mono ?_); (case side1 => refine TabW.below hT ?_; repeat (first | (with_reducible first | exact HB.out | apply below_alloc | apply pw_below_drewN | apply below_drew1 | refine below_set ?_ GE1050.out) | exact HB.out)); (case side2 => repeat (first | exact (Kd.C_below HR0.out HB.out) | (with_reducible refine Kd.C_alloc ?_ _) | (with_reducible refine Kd.C_drewN ?_ _) | (with_reducible refine Kd.C_drew ?_))); (case side3 => exact HC0.out); rintro e w40 ⟨v1054, rfl, ho0, hb⟩; refine ⟨_, rfl, ?_⟩; have n0_ := Aside0.mk (Kd.R_lower ho0 (below_size (by repeat (first | (with_reducible first | exact HB.out | apply below_alloc | apply pw_below_drewN | apply below_drew1 | refine below_set ?_ GE1050.out) | exact HB.out)))); have n1_ := Aside0.mk (blk_below (g := gb1050) (o := .cells #[.string a1_0, .string a1_1] 38 (0, 0)) (by (with_reducible repeat (first | refine blk_drewN ?_ _ | refine blk_drew ?_ | refine blk_alloc ?_ _)); exact BK1050.out) hb); have n2_ := Aside0.mk (below_step (by repeat (first | (with_reducible first | exact HB.out | apply below_alloc | apply pw_below_drewN | apply below_drew1 | refine below_set ?_ GE1050.out) | exact HB.out)) hb); clear BK1050; clear HB; have HO1055 := n0_; have BK1050 := n1_; have HB := n2_; clear n0_ n1_ n2_; (try clear hb); (try clear hb2); (try clear hk); (try clear hi); (try clear ho0)))
    go_ret2
    exact ⟨(.slice none 0 0), by first | rfl | (simp [errW_none, errW_some] <;> rfl) | (simp [*, errW_none, errW_some] <;> rfl), by first | exact Kd.R_nil _ _ _ _ _ | exact Kd.N_nil _ _ _ _ _ | exact Kd.V_nil _ _ _ _ _ | exact Kd.Q_nil _ _ _ _ _ | exact Kd.S_nil _ _ _ _ _, by repeat (first | (with_reducible first | exact HB.out | apply below_alloc | apply pw_below_drewN | apply below_drew1 | refine below_set ?_ GE1050.out) | exact HB.out)⟩
 ·rw [if_neg c4] at H
  have c4b0 : (t1051 == 0) = false := beq_eq_false_iff_ne.mpr c4
  have c4b1 : (t1051 != 0) = true := bne_iff_ne.mpr c4
  simp only [Option.some.injEq, Prod.mk.injEq] at H
  obtain ⟨rfl, rfl⟩ := H
  go_enter Tryz.func78, Tryz.ntmps78
  go_wp2_with (first | ((with_reducible refine gate_dst (N := 3) rfl ?_); refine box_event ?hg (N := 3) ?hd (cs := #[.string a1_0, .string a1_1]) (t := 38) ?hr ?_; (case hd => rfl); (case hg => rfl); (case hr => first | (go_simp; done) | (go_simp; rfl)); intro gb1050 hg w41 hbox hb; have n0_ := Aside0.mk (below_step (by repeat (first | (with_reducible first | exact HB.out | apply below_alloc | apply pw_below_drewN | apply below_drew1) | exact HB.out)) hb); have n1_ := Aside0.mk (hbox); have n2_ := Aside0.mk ((by rw [hg]; exact (below_size (by repeat (first | (with_reducible first | exact HB.out | apply below_alloc | apply pw_below_drewN | apply below_drew1) | exact HB.out))) : w.heap.size ≤ gb1050)); have n3_ := Aside0.mk ((by rw [hg]; exact (below_size (by repeat (first | (with_reducible first | exact HB.out | apply below_alloc | apply pw_below_drewN | apply below_drew1) | exact HB.out))) : w.heap.size ≤ gb1050)); clear HB; have HB := n0_; have BK1050 := n1_; have GW1050 := n2_; have GE1050 := n3_; clear n0_ n1_ n2_ n3_; clear hb hbox hg; have hcz42_0 : w41.cell? ⟨gb1050, 0, none⟩ = some (.string a1_0) := (blk_cell BK1050.out 0).trans rfl; have hcz42_1 : w41.cell? ⟨gb1050, 1, none⟩ = some (.string a1_1) := (blk_cell BK1050.out 1).trans rfl; have hfz42_0 := blk_frozen BK1050.out 0; have hfz42_1 := blk_frozen BK1050.out 1) | ((with_reducible refine gate_callee (f := 137) rfl ?_); refine goesL_ (some 11) rfl rfl Tryz.func137 (by kernel_rfl) rfl #[.slice A0 l0.length c0, .agg #[.string a1_0, .string a1_1]] rfl (by (try simp only [List.map_toArray, List.map_cons, List.map_nil]); first | done | rfl | (simp only [List.length_drop, List.length_take]; rfl)) ?_; (with_reducible refine (prime_open.calls k _ _ l0 a1_0 a1_1 t1051 _ ?side1 ?side2 ?side3 A3.out).mono ?_); (case side1 => refine TabW.below hT ?_; repeat (first | (with_reducible first | exact HB.out | apply below_alloc | apply pw_below_drewN | apply below_drew1 | refine below_set ?_ GE1050.out) | exact HB.out)); (case side2 => repeat (first | exact (Kd.C_below HR0.out HB.out) | (with_reducible refine Kd.C_alloc ?_ _) | (with_reducible refine Kd.C_drewN ?_ _) | (with_reducible refine Kd.C_drew ?_))); (case side3 => exact HC0.out); rintro e w43 ⟨rfl, hb⟩; refine ⟨_, rfl, ?_⟩; have n0_ := Aside0.mk (blk_below (g := gb1050) (o := .cells #[.string a1_0, .string a1_1] 38 (0, 0)) (by (with_reducible repeat (first | refine blk_drewN ?_ _ | refine blk_drew ?_ | refine blk_alloc ?_ _)); exact BK1050.out) hb); have n1_ := Aside0.mk (below_step (by repeat (first | (with_reducible first | exact HB.out | apply below_alloc | apply pw_below_drewN | apply below_drew1 | refine below_set ?_ GE1050.out) | exact HB.out)) hb); clear BK1050; clear HB; have BK1050 := n0_; have HB := n1_; clear n0_ n1_; (try clear hb); (try clear hb2); (try clear hk); (try clear hi)))
  go_ret2
  exact ⟨(.slice none 0 0), by first | rfl | (simp [errW_none, errW_some] <;> rfl) | (simp [*, errW_none, errW_some] <;> rfl), by first | exact Kd.R_nil _ _ _ _ _ | exact Kd.N_nil _ _ _ _ _ | exact Kd.V_nil _ _ _ _ _ | exact Kd.Q_nil _ _ _ _ _ | exact Kd.S_nil _ _ _ _ _, by repeat (first | (with_reducible first | exact HB.out | apply below_alloc | apply pw_below_drewN | apply below_drew1 | refine below_set ?_ GE1050.out) | exact HB.out)⟩
def prime_fits.f (l0 : List Int) (l1 : List Int) : Option (Int) := if (l1.length : Int) = (l0.length : Int) then ((prime_far.f l1).bind fun t1058 => (if t1058 = true then (some 4) else (some 0))) else (some 5)
set_option maxHeartbeats 8000000 in
set_option maxRecDepth 100000 in
theorem prime_fits.calls (A0 : Option Addr) (c0 : Nat) (l0 : List Int) (A1 : Option Addr) (c1 : Nat) (l1 : List Int) (r : Int) (w : World) (hr0 : Kd.C (Kd.int .i64) w A0 l0.length l0) (hc0 : l0.length ≤ c0) (hr1 : Kd.C (Kd.int .i64) w A1 l1.length l1) (hc1 : l1.length ≤ c1) (h : prime_fits.f l0 l1 = some r) :
  Calls Tryz.prog 128 #[.slice A0 l0.length c0, .slice A1 l1.length c1] w fun e w' => e = .returned (.int .i64 r) ∧ Below w.heap.size w w' := by
 have HR0 := Aside0.mk hr0
 have HC0 := Aside0.mk hc0
 clear hr0 hc0
 have HR1 := Aside0.mk hr1
 have HC1 := Aside0.mk hc1
 clear hr1 hc1
 have HB := Aside0.mk (Below.refl w.heap.size w)
 have H : (if (l1.length : Int) = (l0.length : Int) then ((prime_far.f l1).bind fun t1058 => (if t1058 = true then (some 4) else (some 0))) else (some 5)) = some r := h
 clear h
 by_cases c3 : (l1.length : Int) = (l0.length : Int)
 ·rw [if_pos c3] at H
  have c3b0 : ((l1.length : Int) == (l0.length : Int)) = true := beq_iff_eq.mpr c3
  have c3b1 : ((l1.length : Int) != (l0.length : Int)) = false := bne_eq_false_iff_eq.mpr c3
  have c3b2 : (l1.length == l0.length) = true := by first | simpa using c3 | (simp at c3 ⊢; omega)
  clear c3
  replace H := Option.bind_eq_some_iff.mp H
  obtain ⟨t1058, A40, H⟩ := H
  replace H : (if t1058 = true then (some 4) else (some 0)) = some r := H
  have A4 := Aside0.mk A40
  clear A40
  by_cases c5 : t1058 = true
  ·subst c5
   have H1 : (some 4) = some r := by rw [if_pos rfl] at H; exact H
   clear H
   have H := H1
   clear H1
   obtain rfl := Option.some.inj H
   go_enter Tryz.func128, Tryz.ntmps128
   go_wp2_with (first | ((with_reducible refine gate_callee (f := 139) rfl ?_); refine goesL_ (some 13) rfl rfl Tryz.func139 (by kernel_rfl) rfl #[.slice A1 l1.length c1] rfl (by (try simp only [List.map_toArray, List.map_cons, List.map_nil]); first | done | rfl | (simp only [List.length_drop, List.length_take]; rfl)) ?_; (with_reducible refine (prime_far.calls _ _ l1 true _ ?side1 ?side2 A4.out).mono ?_); (case side1 => repeat (first | exact HR1.out | (with_reducible refine Kd.C_alloc ?_ _) | (with_reducible refine Kd.C_drewN ?_ _) | (with_reducible refine Kd.C_drew ?_))); (case side2 => exact HC1.out); rintro e w6 ⟨rfl, hb⟩; refine ⟨_, rfl, ?_⟩; have n0_ := Aside0.mk (below_step (by repeat (first | (with_reducible first | exact HB.out | apply below_alloc | apply pw_below_drewN | apply below_drew1) | exact HB.out)) hb); clear HB; have HB := n0_; clear n0_; (try clear hb); (try clear hb2); (try clear hk); (try clear hi)))
   go_ret
   exact ⟨by first | rfl | (simp [errW_none, errW_some] <;> rfl) | (simp [*, errW_none, errW_some] <;> rfl), by repeat (first | (with_reducible first | exact HB.out | apply below_alloc | apply pw_below_drewN | apply below_drew1) | exact HB.out)⟩
  ·replace c5 := Bool.eq_false_iff.mpr c5
   subst c5
   have H1 : (some 0) = some r := by rw [if_neg (show ¬ (false = true) by decide)] at H; exact H
   clear H
   have H := H1
   clear H1
   obtain rfl := Option.some.inj H
   go_enter Tryz.func128, Tryz.ntmps128
   go_wp2_with (first | ((with_reducible refine gate_callee (f := 139) rfl ?_); refine goesL_ (some 13) rfl rfl Tryz.func139 (by kernel_rfl) rfl #[.slice A1 l1.length c1] rfl (by (try simp only [List.map_toArray, List.map_cons, List.map_nil]); first | done | rfl | (simp only [List.length_drop, List.length_take]; rfl)) ?_; (with_reducible refine (prime_far.calls _ _ l1 false _ ?side1 ?side2 A4.out).mono ?_); (case side1 => repeat (first | exact HR1.out | (with_reducible refine Kd.C_alloc ?_ _) | (with_reducible refine Kd.C_drewN ?_ _) | (with_reducible refine Kd.C_drew ?_))); (case side2 => exact HC1.out); rintro e w7 ⟨rfl, hb⟩; refine ⟨_, rfl, ?_⟩; have n0_ := Aside0.mk (below_step (by repeat (first | (with_reducible first | exact HB.out | apply below_alloc | apply pw_below_drewN | apply below_drew1) | exact HB.out)) hb); clear HB; have HB := n0_; clear n0_; (try clear hb); (try clear hb2); (try clear hk); (try clear hi)))
   go_ret
   exact ⟨by first | rfl | (simp [errW_none, errW_some] <;> rfl) | (simp [*, errW_none, errW_some] <;> rfl), by repeat (first | (with_reducible first | exact HB.out | apply below_alloc | apply pw_below_drewN | apply below_drew1) | exact HB.out)⟩
 ·rw [if_neg c3] at H
  have c3b0 : ((l1.length : Int) == (l0.length : Int)) = false := beq_eq_false_iff_ne.mpr c3
  have c3b1 : ((l1.length : Int) != (l0.length : Int)) = true := bne_iff_ne.mpr c3
  have c3b2 : (l1.length == l0.length) = false := by first | simpa using c3 | (simp at c3 ⊢; omega)
  obtain rfl := Option.some.inj H
  go_enter Tryz.func128, Tryz.ntmps128
  go_wp2
  go_ret
  exact ⟨by first | rfl | (simp [errW_none, errW_some] <;> rfl) | (simp [*, errW_none, errW_some] <;> rfl), by repeat (first | (with_reducible first | exact HB.out | apply below_alloc | apply pw_below_drewN | apply below_drew1) | exact HB.out)⟩
end Go.Proofs.YtccebdpjdpjgnaaGreatDoor.P
end
