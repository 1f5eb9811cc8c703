/-
parts of the walks and of the plain laws: ExtLib PdecimalOf PdecimalSmall Pdecimalboth PdecimalMul PdecimalAdd ExtDec PdecimalSub
-/
import Derived.Lib.AtoiAll
import Derived.Lib.ParseIntB
import Derived.Lib.Walk
import Derived.Lib.ItoaMem
import Derived.Lib.Hide
import Derived.BigCall
import Derived.BigGuard
import Derived.WalkLawsBesides
import Derived.Test.YtccebdpjdpjgnaaGreatDoorMP16
import Derived.Test.YtccebdpjdpjgnaaGreatDoorMP09
import Derived.Test.YtccebdpjdpjgnaaGreatDoorMP11
import Derived.Test.YtccebdpjdpjgnaaGreatDoorMP12
set_option linter.unusedVariables false
set_option linter.unusedSimpArgs false
section
namespace Go.Proofs.YtccebdpjdpjgnaaGreatDoor.P
open Go.RowKit Go.Sort Go.Lib Go.Proofs.YtccebdpjdpjgnaaGreatDoorW.PrintWords Go.Proofs.YtccebdpjdpjgnaaGreatDoorW.PrintLast Go.Proofs.YtccebdpjdpjgnaaGreatDoorW.PrintMore
theorem below_grow (w : World) (os : Array Obj) : Below w.heap.size w (grow w os) := by
 refine ⟨rfl, rfl, rfl, ?_, fun i hi => ?_⟩
 ·simp [grow]
 ·simp only [grow]; rw [Array.getElem?_append_left hi]
theorem below_growN (w : World) (k : Nat) (os : Array Obj) : Below w.heap.size w (grow (w.drewN k) os) := (pw_below_drewN (Below.refl _ _) k).trans (below_grow (w.drewN k) os)
def strconv_Itoa.f (a0 : Int) : Option ByteArray := if -9223372036854775808 ≤ a0 ∧ a0 ≤ 9223372036854775807 then some ⟨(Lib.itoa a0).toArray⟩ else none
theorem strconv_Itoa.calls (a0 : Int) (r : ByteArray) (w : World) (hT : TabW w) (h : strconv_Itoa.f a0 = some r) :
  Calls Tryz.prog 96 #[.int .i64 a0] w fun e w' => e = .returned (.string r) ∧ Below w.heap.size w w' := by
 unfold strconv_Itoa.f at h
 split at h
 ·rename_i hb
  injection h with h
  subst h
  exact (Tryz.strconv_Itoa a0 hb.1 hb.2 w hT.1).mono fun e w' ⟨he, k, os, hw⟩ => ⟨he, hw ▸ below_growN w k os⟩
 ·cases h
def bits_Len64.f (a0 : Int) : Option Int := if 0 ≤ a0 ∧ a0 < 18446744073709551616 then some (Lib.bitLen a0.toNat) else none
theorem bits_Len64.calls (a0 : Int) (r : Int) (w : World) (h : bits_Len64.f a0 = some r) :
  Calls Tryz.prog 172 #[.int .u64 a0] w fun e w' => e = .returned (.int .i64 r) ∧ Below w.heap.size w w' := by
 unfold bits_Len64.f at h
 split at h
 ·rename_i hb
  injection h with h
  subst h
  exact (Tryz.bits_Len64 a0 w hb.1 (by omega)).mono fun e w' ⟨he, hw⟩ => ⟨he, hw ▸ Below.refl _ _⟩
 ·cases h
theorem holds_zero0 (w : World) (T : TypeId) (nd : Nat) (hs : nd ≤ 24) : Holds (fun (b : UInt8) => Value.int .u8 (b.toNat : Int)) (w.alloc (.cells zeros24 T)) w.heap.size 0 (Array.replicate nd (0 : UInt8)) := fun j hj => by
 have hj' : j < nd := by simpa using hj
 refine ⟨?_, World.frozen?_alloc_new _ _ _ _⟩
 rw [World.cell?_alloc_new, zeros24_at _ (by omega), getElem!_pos _ j hj]
 simp
theorem fin_zero (w : World) (o : Obj) (dk : Array UInt8) (k : Nat) : ∃ os, (putRow (fun (b : UInt8) => Value.int .u8 (b.toNat : Int)) (w.alloc o) w.heap.size 0 dk).drewN k = grow (w.drewN k) os := by
 rw [alloc_eq_grow]
 obtain ⟨os', _, e⟩ := putRow_grow_new (fun (b : UInt8) => Value.int .u8 (b.toNat : Int)) w #[o] w.heap.size 0 dk (Nat.le_refl _)
 exact ⟨os', by rw [e]; rfl⟩
set_option maxHeartbeats 6400000 in
set_option maxRecDepth 100000 in
theorem format_uint (n : Int) (h0 : 0 ≤ n) (h1 : n ≤ 18446744073709551615) (w : World) (htab : Lib.TabIs Tryz.prog w "internal/strconv.uint64pow10" .u64 Lib.pow10Tab) :
  Calls Tryz.prog 263 #[.int .u64 n, .int .i64 10] w fun e w' => e = .returned (.string ⟨(Lib.decDigits n.toNat).toArray⟩) ∧ ∃ k os, w' = grow (w.drewN k) os := by
 by_cases hs : n < 100
 ·obtain ⟨i, rfl⟩ : ∃ i : Nat, n = i := ⟨n.toNat, by omega⟩
  have hi : i < 100 := by omega
  go_enter Tryz.func263, Tryz.ntmps263
  go_wp2_with (go_at_call 256; refine (Tryz.internal_strconv_small i hi _).mono ?_; rintro e w' ⟨rfl, rfl⟩)
  go_ret
  exact ⟨rfl, 0, #[], by simp [World.drewN_zero]⟩
 ·obtain ⟨u, rfl⟩ : ∃ u : Nat, n = u := ⟨n.toNat, by omega⟩
  have hu1 : 1 ≤ u := by omega
  have hu64 : u < 18446744073709551616 := by omega
  have hnd20 : Lib.nDigits u ≤ 20 := by have := Lib.numDigits_eq u hu1 hu64; split at this <;> omega
  have hal : Tryz.prog.arrayLen 270 = 24 := by simp [Program.arrayLen, Tryz.underlying270]
  have hsl1 : ∀ W, (Instr.sliceAt 270 (.pointer (some ⟨w.heap.size, 0, none⟩)) none (some (.int .i64 (Lib.nDigits u : Int))) none).run Tryz.prog W = .ok (.slice (some ⟨w.heap.size, 0, none⟩) (Lib.nDigits u) 24) W := fun W => by
   rw [run_sliceAt_array_h W 270 ⟨w.heap.size, 0, none⟩ (by simp [Program.arrayLen, Program.elem, Tryz.underlying270]) .i64 (Lib.nDigits u : Int) (by omega) (by rw [hal]; omega)]
   go_simp
  have hH0 := holds_zero0 w 270 (Lib.nDigits u) (by omega)
  have hfmt := Tryz.internal_strconv_formatBase10 w.heap.size 0 24 u (Array.replicate (Lib.nDigits u) 0) (w.alloc (.cells Lib.zeros24 270)) hH0 (by rw [Array.size_replicate]; exact Lib.lt_pow_nDigits u) hu64 (by rw [Array.size_replicate]; omega)
  rw [Array.size_replicate] at hfmt
  have HH0 := Lib.hid hH0
  clear hH0 hal
  go_enter Tryz.func263, Tryz.ntmps263
  go_wp2_with (first
   | (go_at_call 257; refine (Tryz.internal_strconv_numDigits u hu1 hu64 _ (Lib.tabIs_alloc htab _)).mono ?_; rintro e w' ⟨rfl, rfl⟩))
  go_at_call 258
  refine hfmt.mono ?_
  rintro e w' ⟨rfl, k, v', dk, rfl, hF⟩
  have hcv : (convert 191 9 (.slice (some ⟨w.heap.size, 0, none⟩) (Lib.nDigits u) 24)).run Tryz.prog ((putRow (fun (b : UInt8) => Value.int .u8 (b.toNat : Int)) (w.alloc (.cells Lib.zeros24 270)) w.heap.size 0 dk).drewN k) = .ok (.string ⟨(Lib.decDigits u).toArray⟩) ((putRow (fun (b : UInt8) => Value.int .u8 (b.toNat : Int)) (w.alloc (.cells Lib.zeros24 270)) w.heap.size 0 dk).drewN k) := by
   have h := run_convert_bytes_back (P := Tryz.prog) ((putRow (fun (b : UInt8) => Value.int .u8 (b.toNat : Int)) (w.alloc (.cells Lib.zeros24 270)) w.heap.size 0 dk).drewN k) 191 9 5 ⟨w.heap.size, 0, none⟩ 24 (Lib.decDigits u) Tryz.underlying191 Tryz.underlying5 Tryz.underlying9 (fun j hj => by
    rw [Lib.row_is_numeral hF j hj, Lib.add_plain, World.cell?_drewN]
    exact cell?_putRow (fun (b : UInt8) => Value.int .u8 (b.toNat : Int)) _ w.heap.size 0 _ dk HH0.out (by rw [hF.size, Array.size_replicate]) j (by rw [hF.size]; rw [Lib.decDigits_length] at hj; exact hj))
   rw [Lib.decDigits_length] at h
   exact h
  go_wp2
  go_ret
  obtain ⟨os, eo⟩ := fin_zero w (.cells Lib.zeros24 270) dk k
  exact ⟨rfl, k, os, eo⟩
def strconv_FormatUint.f (a0 a1 : Int) : Option ByteArray := if 0 ≤ a0 ∧ a0 ≤ 18446744073709551615 ∧ a1 = 10 then some ⟨(Lib.decDigits a0.toNat).toArray⟩ else none
theorem strconv_FormatUint.calls (a0 a1 : Int) (r : ByteArray) (w : World) (hT : TabW w) (h : strconv_FormatUint.f a0 a1 = some r) :
  Calls Tryz.prog 221 #[.int .u64 a0, .int .i64 a1] w fun e w' => e = .returned (.string r) ∧ Below w.heap.size w w' := by
 unfold strconv_FormatUint.f at h
 split at h
 ·rename_i hb
  obtain ⟨b0, b1, rfl⟩ := hb
  injection h with h
  subst h
  have hc := format_uint a0 b0 b1 w hT.1
  go_enter Tryz.func221, Tryz.ntmps221
  go_wp2_with (go_at_call 263; refine hc.mono ?_; rintro e w' ⟨rfl, k, os, rfl⟩)
  go_ret
  exact ⟨rfl, below_growN w k os⟩
 ·cases h
theorem below_bytes (w : World) (T : TypeId) (s : ByteArray) : Below w.heap.size w (Lib.bytesWorld w T s) := bytes_below (Below.refl _ _) (Nat.le_refl _) T s
def strconv_Atoi.f (a0 : ByteArray) : Option (Int × Option Int) :=
 if a0.size ≤ 140737488351232 then (match Lib.atoiAll a0.data.toList with
  | .ok v => some (v, none)
  | .range => some (Lib.atoiSat a0.data.toList, some 0)
  | _ => some (0, some 0)) else none
theorem strconv_Atoi.calls (a0 : ByteArray) (r1 : Int) (r2 : Option Int) (w : World) (hT : TabW w) (h : strconv_Atoi.f a0 = some (r1, r2)) :
  Calls Tryz.prog 133 #[.string a0] w fun e w' => ∃ ex_ : Value, e = .returned (.tuple #[.int .i64 r1, ex_]) ∧ ErrIs r2 ex_ ∧ Below w.heap.size w w' := by
 obtain ⟨_, ⟨t2, p2, h2⟩, ⟨t3, p3, h3⟩, _⟩ := hT
 unfold strconv_Atoi.f at h
 split at h
 ·rename_i hb
  split at h
  ·rename_i v hv
   simp only [Option.some.injEq, Prod.mk.injEq] at h
   obtain ⟨rfl, rfl⟩ := h
   refine (Tryz.strconv_Atoi_ok a0 (by omega) v hv w).mono fun e w' ⟨he, hw⟩ => ⟨_, he, rfl, ?_⟩
   rcases hw with hw | ⟨t, hw⟩
   ·exact hw ▸ Below.refl _ _
   ·exact hw ▸ below_bytes w 5 t
  ·rename_i hv
   simp only [Option.some.injEq, Prod.mk.injEq] at h
   obtain ⟨rfl, rfl⟩ := h
   exact (Tryz.strconv_Atoi_range_var a0 (by omega) hv t3 p3 w h3).mono fun e w' ⟨N, he, _, _, hw⟩ => ⟨_, he, ⟨N, rfl⟩, hw⟩
  ·rename_i hv1 hv2
   simp only [Option.some.injEq, Prod.mk.injEq] at h
   obtain ⟨rfl, rfl⟩ := h
   exact (Tryz.strconv_Atoi_syntax_var a0 (by omega) (fun v e => hv1 v e) (fun e => hv2 e) t2 p2 w h2).mono fun e w' ⟨N, he, _, _, hw⟩ => ⟨_, he, ⟨N, rfl⟩, hw⟩
 ·cases h
def strconv_ParseUint.f (a0 : ByteArray) (a1 a2 : Int) : Option (Int × Option Int) :=
 if a0.size ≤ 140737488351232 ∧ a1 = 10 ∧ a2 = 64 then (match Lib.parseUintB 64 a0.data.toList with
  | .ok v => some ((v : Int), none)
  | .range => some (18446744073709551615, some 0)
  | _ => some (0, some 0)) else none
theorem strconv_ParseUint.calls (a0 : ByteArray) (a1 a2 : Int) (r1 : Int) (r2 : Option Int) (w : World) (hT : TabW w) (h : strconv_ParseUint.f a0 a1 a2 = some (r1, r2)) :
  Calls Tryz.prog 222 #[.string a0, .int .i64 a1, .int .i64 a2] w fun e w' => ∃ ex_ : Value, e = .returned (.tuple #[.int .u64 r1, ex_]) ∧ ErrIs r2 ex_ ∧ Below w.heap.size w w' := by
 obtain ⟨_, ⟨t2, p2, h2⟩, ⟨t3, p3, h3⟩, _⟩ := hT
 unfold strconv_ParseUint.f at h
 split at h
 ·rename_i hb
  obtain ⟨hb, rfl, rfl⟩ := hb
  split at h
  ·rename_i v hv
   simp only [Option.some.injEq, Prod.mk.injEq] at h
   obtain ⟨rfl, rfl⟩ := h
   refine (Tryz.strconv_ParseUint_10_at64_ok a0 (by omega) v hv w).mono fun e w' ⟨he, hw⟩ => ⟨_, he, rfl, ?_⟩
   rcases hw with hw | hw
   ·exact hw ▸ Below.refl _ _
   ·exact hw ▸ below_bytes w 5 a0
  ·rename_i hv
   simp only [Option.some.injEq, Prod.mk.injEq] at h
   obtain ⟨rfl, rfl⟩ := h
   exact (Tryz.strconv_ParseUint_10_at64_range_var a0 (by omega) hv t3 p3 w h3).mono fun e w' ⟨N, he, _, _, hw⟩ => ⟨_, he, ⟨N, rfl⟩, hw⟩
  ·rename_i hv1 hv2
   simp only [Option.some.injEq, Prod.mk.injEq] at h
   obtain ⟨rfl, rfl⟩ := h
   exact (Tryz.strconv_ParseUint_10_at64_syntax_var a0 (by omega) (fun v e => hv1 v e) (fun e => hv2 e) t2 p2 w h2).mono fun e w' ⟨N, he, _, _, hw⟩ => ⟨_, he, ⟨N, rfl⟩, hw⟩
 ·cases h
end Go.Proofs.YtccebdpjdpjgnaaGreatDoor.P
end
section
namespace Go.Proofs.YtccebdpjdpjgnaaGreatDoor.P
open Go.RowKit Go.Proofs.YtccebdpjdpjgnaaGreatDoorW.PrintWords Go.Proofs.YtccebdpjdpjgnaaGreatDoorW.PrintLast Go.Proofs.YtccebdpjdpjgnaaGreatDoorW.PrintMore
attribute [local go_sem] max2_int min2_int max_two min_two max_three min_three max_four min_four
def decimal_Of.f (a0 : Int) : Option (ByteArray) := (strconv_FormatUint.f a0 10).bind fun t168 => (some t168)
set_option maxHeartbeats 8000000 in
set_option maxRecDepth 100000 in
theorem decimal_Of.calls (a0 : Int) (r : ByteArray) (w : World) (hT : TabW w) (h : decimal_Of.f a0 = some r) :
  Calls Tryz.prog 169 #[.int .u64 a0] w fun e w' => e = .returned (.string r) ∧ Below w.heap.size w w' := by
 have HB := Aside0.mk (Below.refl w.heap.size w)
 have H : ((strconv_FormatUint.f a0 10).bind fun t168 => (some t168)) = some r := h
 clear h
 replace H := Option.bind_eq_some_iff.mp H
 obtain ⟨t168, A20, H⟩ := H
 try dsimp only at H
 have A2 := Aside0.mk A20
 clear A20
 obtain rfl := Option.some.inj H
 go_enter Tryz.func169, Tryz.ntmps169
 go_wp2_with (first | ((with_reducible refine gate_callee (f := 221) rfl ?_); refine goesK (some 4) Tryz.func221 [.int .u64 a0, .int .i64 10] rfl rfl ?_; (with_reducible refine (strconv_FormatUint.calls a0 10 t168 _ ?side1 A2.out).mono ?_); (case side1 => refine TabW.below hT ?_; apply_rules [HB.out, below_alloc, pw_below_drewN, below_drew1]); rintro e w3 ⟨rfl, hb⟩; refine ⟨_, rfl, ?_⟩; replace HB := Aside0.mk (below_step (by apply_rules [HB.out, below_alloc, pw_below_drewN, below_drew1]) hb); (try clear hb)))
 go_ret
 exact ⟨by first | rfl | simp [*], by apply_rules [HB.out, below_alloc, pw_below_drewN, below_drew1]⟩
def decimal_Small.f (a0 : ByteArray) : Option (Int × Bool) := (strconv_ParseUint.f a0 10 64).bind fun bt169 => (if bt169.2.isNone = true then (some (bt169.1, true)) else (some (0, false)))
set_option maxHeartbeats 8000000 in
set_option maxRecDepth 100000 in
theorem decimal_Small.calls (a0 : ByteArray) (r1 : Int) (r2 : Bool) (w : World) (hT : TabW w) (h : decimal_Small.f a0 = some (r1, r2)) :
  Calls Tryz.prog 171 #[.string a0] w fun e w' => e = .returned (.tuple #[.int .u64 r1, .bool r2]) ∧ Below w.heap.size w w' := by
 have hu162 := Tryz.underlying162
 have HB := Aside0.mk (Below.refl w.heap.size w)
 have H : ((strconv_ParseUint.f a0 10 64).bind fun bt169 => (if bt169.2.isNone = true then (some (bt169.1, true)) else (some (0, false)))) = some (r1, r2) := h
 clear h
 replace H := Option.bind_eq_some_iff.mp H
 obtain ⟨⟨t169, t170⟩, A20, H⟩ := H
 try dsimp only at H
 have A2 := Aside0.mk A20
 clear A20
 rcases t170 with _ | q171
 ·have H1 : (some (t169, true)) = some (r1, r2) := by rw [if_pos (show (none : Option Int).isNone = true by rfl)] at H; exact H
  clear H
  have H := H1
  clear H1
  try simp only [errW_none, errW_some]
  simp only [Option.some.injEq, Prod.mk.injEq] at H
  obtain ⟨rfl, rfl⟩ := H
  go_enter Tryz.func171, Tryz.ntmps171
  go_wp2_with (first | ((with_reducible refine gate_callee (f := 222) rfl ?_); refine goesK (some 8) Tryz.func222 [.string a0, .int .i64 10, .int .i64 64] rfl rfl ?_; (with_reducible refine (strconv_ParseUint.calls a0 10 64 t169 none _ ?side1 A2.out).mono ?_); (case side1 => refine TabW.below hT ?_; apply_rules [HB.out, below_alloc, pw_below_drewN, below_drew1]); rintro e w3 ⟨ex_, rfl, hx_, hb⟩; refine ⟨_, rfl, ?_⟩; replace HB := Aside0.mk (below_step (by apply_rules [HB.out, below_alloc, pw_below_drewN, below_drew1]) hb); (try clear hb); (first | (have hx2_ := errIs_none hx_; clear hx_; subst hx2_) | (obtain ⟨qx_, hx2_⟩ := errIs_some hx_; clear hx_; subst hx2_) | skip)))
  go_ret2
  exact ⟨by first | rfl | simp [*], by apply_rules [HB.out, below_alloc, pw_below_drewN, below_drew1]⟩
 ·have H1 : (some (0, false)) = some (r1, r2) := by rw [if_neg (show ¬ (some q171).isNone = true by simp)] at H; exact H
  clear H
  have H := H1
  clear H1
  try simp only [errW_none, errW_some]
  simp only [Option.some.injEq, Prod.mk.injEq] at H
  obtain ⟨rfl, rfl⟩ := H
  go_enter Tryz.func171, Tryz.ntmps171
  go_wp2_with (first | ((with_reducible refine gate_callee (f := 222) rfl ?_); refine goesK (some 8) Tryz.func222 [.string a0, .int .i64 10, .int .i64 64] rfl rfl ?_; (with_reducible refine (strconv_ParseUint.calls a0 10 64 t169 (some q171) _ ?side1 A2.out).mono ?_); (case side1 => refine TabW.below hT ?_; apply_rules [HB.out, below_alloc, pw_below_drewN, below_drew1]); rintro e w4 ⟨ex_, rfl, hx_, hb⟩; refine ⟨_, rfl, ?_⟩; replace HB := Aside0.mk (below_step (by apply_rules [HB.out, below_alloc, pw_below_drewN, below_drew1]) hb); (try clear hb); (first | (have hx2_ := errIs_none hx_; clear hx_; subst hx2_) | (obtain ⟨qx_, hx2_⟩ := errIs_some hx_; clear hx_; subst hx2_) | skip)))
  go_ret2
  exact ⟨by first | rfl | simp [*], by apply_rules [HB.out, below_alloc, pw_below_drewN, below_drew1]⟩
def decimal_both.j0 : Nat → ByteArray → ByteArray → Bool → Option (Int × Int × Bool)
 | 0, _, _, _ => none
 | k + 1, x0, x1, x14 => if x14 = true then (some (0, 0, false)) else ((decimal_Small.f x0).bind fun bt172 => ((decimal_Small.f x1).bind fun bt174 => (some (bt172.1, bt174.1, true))))
def decimal_both.f (k : Nat) (a0 : ByteArray) (a1 : ByteArray) : Option (Int × Int × Bool) := if (a0.size : Int) > 18 then (decimal_both.j0 k a0 a1 true) else (decimal_both.j0 k a0 a1 (decide ((a1.size : Int) > 18)))
set_option maxHeartbeats 8000000 in
set_option maxRecDepth 100000 in
theorem decimal_both.calls (k : Nat) (a0 : ByteArray) (a1 : ByteArray) (r1 : Int) (r2 : Int) (r3 : Bool) (w : World) (hT : TabW w) (h : decimal_both.f k a0 a1 = some (r1, r2, r3)) :
  Calls Tryz.prog 175 #[.string a0, .string a1] w fun e w' => e = .returned (.tuple #[.int .u64 r1, .int .u64 r2, .bool r3]) ∧ Below w.heap.size w w' := by
 have HB := Aside0.mk (Below.refl w.heap.size w)
 have H : (if (a0.size : Int) > 18 then (decimal_both.j0 k a0 a1 true) else (decimal_both.j0 k a0 a1 (decide ((a1.size : Int) > 18)))) = some (r1, r2, r3) := h
 clear h
 have HC3 := Aside0.mk H
 clear H
 go_enter Tryz.func175, Tryz.ntmps175
 go_upto_region 1 with (fail)
 go_cut [14] (fun v14 wc => ∃ (kq : Nat) (x14_2 : Bool), v14 = .bool x14_2 ∧ Aside0 (decimal_both.j0 kq a0 a1 x14_2 = some (r1, r2, r3)) ∧ Aside0 (kq ≤ k) ∧ Aside0 (Below w.heap.size w wc))
 case first =>
  have H := HC3.out
  clear HC3
  by_cases c4 : (a0.size : Int) > 18
  ·rw [if_pos c4] at H
   have c4b0 : decide (18 < (a0.size : Int)) = true := decide_eq_true c4
   have c4b1 : decide (18 < a0.size) = true := decide_eq_true (by omega)
   clear c4
   (first | rw [c4b0] | (simp only [i64_w, i32_w]; rw [c4b0]) | skip)
   have H' := Aside0.mk H
   clear H
   go_wp2
   go_meet
   case rel => exact ⟨_, (true), (by first | rfl | (simp; done) | (simp [*]; done)), H', ⟨by first | omega | exact Nat.le_refl _⟩, ⟨by apply_rules [HB.out, below_alloc, pw_below_drewN, below_drew1]⟩⟩
  ·rw [if_neg c4] at H
   have c4b0 : decide (18 < (a0.size : Int)) = false := decide_eq_false c4
   have c4b1 : decide (18 < a0.size) = false := decide_eq_false (by omega)
   clear c4
   (first | rw [c4b0] | (simp only [i64_w, i32_w]; rw [c4b0]) | skip)
   have H' := Aside0.mk H
   clear H
   go_wp2
   go_meet
   case rel => exact ⟨_, (decide ((a1.size : Int) > 18)), (by first | rfl | (simp; done) | (simp [*]; done)), H', ⟨by first | omega | exact Nat.le_refl _⟩, ⟨by apply_rules [HB.out, below_alloc, pw_below_drewN, below_drew1]⟩⟩
 case rest =>
  clear HC3
  obtain ⟨kq, x14_2, rfl, HA, HJ2, HB⟩ := hcut
  cases kq with
  | zero => exact absurd HA.out (by simp [decimal_both.j0])
  | succ kj2 =>
   have H := HA.out
   clear HA
   simp only [decimal_both.j0] at H
   by_cases c5 : x14_2 = true
   ·subst c5
    have H1 : (some (0, 0, false)) = some (r1, r2, r3) := by rw [if_pos rfl] at H; exact H
    clear H
    have H := H1
    clear H1
    simp only [Option.some.injEq, Prod.mk.injEq] at H
    obtain ⟨rfl, rfl, rfl⟩ := H
    go_wp2
    go_ret3
    exact ⟨by first | rfl | simp [*], by apply_rules [HB.out, below_alloc, pw_below_drewN, below_drew1]⟩
   ·replace c5 := Bool.eq_false_iff.mpr c5
    subst c5
    have H1 : ((decimal_Small.f a0).bind fun bt172 => ((decimal_Small.f a1).bind fun bt174 => (some (bt172.1, bt174.1, true)))) = some (r1, r2, r3) := by rw [if_neg (show ¬ (false = true) by decide)] at H; exact H
    clear H
    have H := H1
    clear H1
    replace H := Option.bind_eq_some_iff.mp H
    obtain ⟨⟨t172, t173⟩, A60, H⟩ := H
    try dsimp only at H
    have A6 := Aside0.mk A60
    clear A60
    replace H := Option.bind_eq_some_iff.mp H
    obtain ⟨⟨t174, t175⟩, A70, H⟩ := H
    try dsimp only at H
    have A7 := Aside0.mk A70
    clear A70
    simp only [Option.some.injEq, Prod.mk.injEq] at H
    obtain ⟨rfl, rfl, rfl⟩ := H
    go_wp2_with (first | ((with_reducible refine gate_callee (f := 171) rfl ?_); refine goesK (some 17) Tryz.func171 [.string a0] rfl rfl ?_; (with_reducible refine (decimal_Small.calls a0 t172 t173 _ ?side1 A6.out).mono ?_); (case side1 => refine TabW.below hT ?_; apply_rules [HB.out, below_alloc, pw_below_drewN, below_drew1]); rintro e w8 ⟨rfl, hb⟩; refine ⟨_, rfl, ?_⟩; replace HB := Aside0.mk (below_step (by apply_rules [HB.out, below_alloc, pw_below_drewN, below_drew1]) hb); (try clear hb)) | ((with_reducible refine gate_callee (f := 171) rfl ?_); refine goesK (some 22) Tryz.func171 [.string a1] rfl rfl ?_; (with_reducible refine (decimal_Small.calls a1 t174 t175 _ ?side1 A7.out).mono ?_); (case side1 => refine TabW.below hT ?_; apply_rules [HB.out, below_alloc, pw_below_drewN, below_drew1]); rintro e w9 ⟨rfl, hb⟩; refine ⟨_, rfl, ?_⟩; replace HB := Aside0.mk (below_step (by apply_rules [HB.out, below_alloc, pw_below_drewN, below_drew1]) hb); (try clear hb)))
    go_ret3
    exact ⟨by first | rfl | simp [*], by apply_rules [HB.out, below_alloc, pw_below_drewN, below_drew1]⟩
def decimal_Mul.f (k : Nat) (a0 : ByteArray) (a1 : ByteArray) : Option (ByteArray) := if (wrap64 ((a0.size : Int) + (a1.size : Int))) ≤ 18 then ((decimal_both.f k a0 a1).bind fun bt434 => ((decimal_Of.f (IntKind.u64.wrap (bt434.1 * bt434.2.1))).bind fun t437 => (some t437))) else ((decimal_cut.f k a0).bind fun t438 => ((decimal_cut.f k a1).bind fun t441 => ((decimal_pieces_times.f k t438 t441).bind fun t444 => ((decimal_pieces_text.f k t444).bind fun t447 => (some t447)))))
set_option maxHeartbeats 8000000 in
set_option maxRecDepth 100000 in
theorem decimal_Mul.calls (k : Nat) (a0 : ByteArray) (a1 : ByteArray) (r : ByteArray) (w : World) (hT : TabW w) (h : decimal_Mul.f k a0 a1 = some r) :
  Calls Tryz.prog 113 #[.string a0, .string a1] w fun e w' => e = .returned (.string r) ∧ Below w.heap.size w w' := by
 have HB := Aside0.mk (Below.refl w.heap.size w)
 have H : (if (wrap64 ((a0.size : Int) + (a1.size : Int))) ≤ 18 then ((decimal_both.f k a0 a1).bind fun bt434 => ((decimal_Of.f (IntKind.u64.wrap (bt434.1 * bt434.2.1))).bind fun t437 => (some t437))) else ((decimal_cut.f k a0).bind fun t438 => ((decimal_cut.f k a1).bind fun t441 => ((decimal_pieces_times.f k t438 t441).bind fun t444 => ((decimal_pieces_text.f k t444).bind fun t447 => (some t447)))))) = some r := h
 clear h
 by_cases c3 : (wrap64 ((a0.size : Int) + (a1.size : Int))) ≤ 18
 ·rw [if_pos c3] at H
  have c3b0 : decide ((wrap64 ((a0.size : Int) + (a1.size : Int))) ≤ 18) = true := decide_eq_true c3
  clear c3
  replace H := Option.bind_eq_some_iff.mp H
  obtain ⟨⟨t434, t435, t436⟩, A40, H⟩ := H
  try dsimp only at H
  have A4 := Aside0.mk A40
  clear A40
  replace H := Option.bind_eq_some_iff.mp H
  obtain ⟨t437, A50, H⟩ := H
  try dsimp only at H
  have A5 := Aside0.mk A50
  clear A50
  obtain rfl := Option.some.inj H
  go_enter Tryz.func113, Tryz.ntmps113
  go_wp2_with (first | ((with_reducible refine gate_callee (f := 175) rfl ?_); refine goesK (some 17) Tryz.func175 [.string a0, .string a1] rfl rfl ?_; (with_reducible refine (decimal_both.calls k a0 a1 t434 t435 t436 _ ?side1 A4.out).mono ?_); (case side1 => refine TabW.below hT ?_; apply_rules [HB.out, below_alloc, pw_below_drewN, below_drew1]); rintro e w6 ⟨rfl, hb⟩; refine ⟨_, rfl, ?_⟩; replace HB := Aside0.mk (below_step (by apply_rules [HB.out, below_alloc, pw_below_drewN, below_drew1]) hb); (try clear hb)) | ((with_reducible refine gate_callee (f := 169) rfl ?_); refine goesK (some 24) Tryz.func169 [.int .u64 (IntKind.u64.wrap (t434 * t435))] rfl rfl ?_; (with_reducible refine (decimal_Of.calls (IntKind.u64.wrap (t434 * t435)) t437 _ ?side1 A5.out).mono ?_); (case side1 => refine TabW.below hT ?_; apply_rules [HB.out, below_alloc, pw_below_drewN, below_drew1]); rintro e w7 ⟨rfl, hb⟩; refine ⟨_, rfl, ?_⟩; replace HB := Aside0.mk (below_step (by apply_rules [HB.out, below_alloc, pw_below_drewN, below_drew1]) hb); (try clear hb)))
  go_ret
  exact ⟨by first | rfl | simp [*], by apply_rules [HB.out, below_alloc, pw_below_drewN, below_drew1]⟩
 ·rw [if_neg c3] at H
  have c3b0 : decide ((wrap64 ((a0.size : Int) + (a1.size : Int))) ≤ 18) = false := decide_eq_false c3
  clear c3
  replace H := Option.bind_eq_some_iff.mp H
  obtain ⟨t438, A80, H⟩ := H
  try dsimp only at H
  have A8 := Aside0.mk A80
  clear A80
  replace H := Option.bind_eq_some_iff.mp H
  obtain ⟨t441, A90, H⟩ := H
  try dsimp only at H
  have A9 := Aside0.mk A90
  clear A90
  replace H := Option.bind_eq_some_iff.mp H
  obtain ⟨t444, A100, H⟩ := H
  try dsimp only at H
  have A10 := Aside0.mk A100
  clear A100
  replace H := Option.bind_eq_some_iff.mp H
  obtain ⟨t447, A110, H⟩ := H
  try dsimp only at H
  have A11 := Aside0.mk A110
  clear A110
  obtain rfl := Option.some.inj H
  go_enter Tryz.func113, Tryz.ntmps113
  go_wp2_with (first | ((with_reducible refine gate_callee (f := 108) rfl ?_); refine goesK (some 26) Tryz.func108 [.string a0] rfl rfl ?_; (with_reducible refine (decimal_cut.calls k a0 t438 _ A8.out).mono ?_); rintro e w12 ⟨v439, rfl, ho0, hb⟩; refine ⟨_, rfl, ?_⟩; have HO440 := Aside0.mk (Kd.R_lower ho0 (below_size (by apply_rules [HB.out, below_alloc, pw_below_drewN, below_drew1]))); replace HB := Aside0.mk (below_step (by apply_rules [HB.out, below_alloc, pw_below_drewN, below_drew1]) hb); (try clear hb); (try clear ho0)) | ((with_reducible refine gate_callee (f := 108) rfl ?_); refine goesK (some 28) Tryz.func108 [.string a1] rfl rfl ?_; (with_reducible refine (decimal_cut.calls k a1 t441 _ A9.out).mono ?_); rintro e w13 ⟨v442, rfl, ho0, hb⟩; refine ⟨_, rfl, ?_⟩; have n0_ := Aside0.mk (Kd.R_elder' (by apply_rules [HO440.out, Kd.R_alloc, Kd.R_drewN, Kd.R_drew]) (Kd.R_base ho0) hb); have n1_ := Aside0.mk (Kd.R_lower (Kd.R_new' ho0 (Kd.R_lt (by apply_rules [HO440.out, Kd.R_alloc, Kd.R_drewN, Kd.R_drew]))) (below_size (by apply_rules [HB.out, below_alloc, pw_below_drewN, below_drew1]))); have n2_ := Aside0.mk (below_step (by apply_rules [HB.out, below_alloc, pw_below_drewN, below_drew1]) hb); clear HO440; clear HB; have HO440 := n0_; have HO443 := n1_; have HB := n2_; clear n0_ n1_ n2_; (try clear hb); (try clear ho0); obtain ⟨Ao14, co14, eo14⟩ := Kd.R_slice HO440.out; subst eo14; obtain ⟨Ao15, co15, eo15⟩ := Kd.R_slice HO443.out; subst eo15) | ((with_reducible refine gate_callee (f := 109) rfl ?_); refine goesK (some 29) Tryz.func109 [.slice Ao14 t438.length co14, .slice Ao15 t441.length co15] rfl rfl ?_; (with_reducible refine (decimal_pieces_times.calls k _ _ t438 _ _ t441 t444 _ ?side1 ?side2 ?side3 ?side4 A10.out).mono ?_); (case side1 => apply_rules [(Kd.R_reads' HO440.out).2.2, Kd.C_alloc, Kd.C_drewN, Kd.C_drew]); (case side2 => exact (Kd.R_reads' HO440.out).2.1); (case side3 => apply_rules [(Kd.R_reads' HO443.out).2.2, Kd.C_alloc, Kd.C_drewN, Kd.C_drew]); (case side4 => exact (Kd.R_reads' HO443.out).2.1); rintro e w16 ⟨v445, rfl, ho0, hb⟩; refine ⟨_, rfl, ?_⟩; have n0_ := Aside0.mk (Kd.R_elder' (by apply_rules [HO440.out, Kd.R_alloc, Kd.R_drewN, Kd.R_drew]) (Kd.R_base ho0) hb); have n1_ := Aside0.mk (Kd.R_elder' (by apply_rules [HO443.out, Kd.R_alloc, Kd.R_drewN, Kd.R_drew]) (Kd.R_base ho0) hb); have n2_ := Aside0.mk (Kd.R_lower (Kd.R_new' (Kd.R_new' ho0 (Kd.R_lt (by apply_rules [HO440.out, Kd.R_alloc, Kd.R_drewN, Kd.R_drew]))) (Kd.R_lt (by apply_rules [HO443.out, Kd.R_alloc, Kd.R_drewN, Kd.R_drew]))) (below_size (by apply_rules [HB.out, below_alloc, pw_below_drewN, below_drew1]))); have n3_ := Aside0.mk (below_step (by apply_rules [HB.out, below_alloc, pw_below_drewN, below_drew1]) hb); clear HO440; clear HO443; clear HB; have HO440 := n0_; have HO443 := n1_; have HO446 := n2_; have HB := n3_; clear n0_ n1_ n2_ n3_; (try clear hb); (try clear ho0); obtain ⟨Ao17, co17, eo17⟩ := Kd.R_slice HO446.out; subst eo17) | ((with_reducible refine gate_callee (f := 110) rfl ?_); refine goesK (some 30) Tryz.func110 [.slice Ao17 t444.length co17] rfl rfl ?_; (with_reducible refine (decimal_pieces_text.calls k _ _ t444 t447 _ ?side1 ?side2 A11.out).mono ?_); (case side1 => apply_rules [(Kd.R_reads' HO446.out).2.2, Kd.C_alloc, Kd.C_drewN, Kd.C_drew]); (case side2 => exact (Kd.R_reads' HO446.out).2.1); rintro e w18 ⟨rfl, hb⟩; refine ⟨_, rfl, ?_⟩; replace HO440 := Aside0.mk (Kd.R_below (by apply_rules [HO440.out, Kd.R_alloc, Kd.R_drewN, Kd.R_drew]) hb); replace HO443 := Aside0.mk (Kd.R_below (by apply_rules [HO443.out, Kd.R_alloc, Kd.R_drewN, Kd.R_drew]) hb); replace HO446 := Aside0.mk (Kd.R_below (by apply_rules [HO446.out, Kd.R_alloc, Kd.R_drewN, Kd.R_drew]) hb); replace HB := Aside0.mk (below_step (by apply_rules [HB.out, below_alloc, pw_below_drewN, below_drew1]) hb); (try clear hb)))
  go_ret
  exact ⟨by first | rfl | simp [*], by apply_rules [HB.out, below_alloc, pw_below_drewN, below_drew1]⟩

end Go.Proofs.YtccebdpjdpjgnaaGreatDoor.P
end
section
namespace Go.Proofs.YtccebdpjdpjgnaaGreatDoor.P
open Go.RowKit Go.Proofs.YtccebdpjdpjgnaaGreatDoorW.PrintWords Go.Proofs.YtccebdpjdpjgnaaGreatDoorW.PrintLast Go.Proofs.YtccebdpjdpjgnaaGreatDoorW.PrintMore
attribute [local go_sem] max2_int min2_int max_two min_two
def decimal_Compare.f (a0 a1 : ByteArray) : Option Int :=
 if a0.size ≤ 140737488351232 ∧ a1.size ≤ 140737488351232 then some (if a0.size = a1.size then (if Op.bytesLess a0.toList a1.toList = true then -1 else if a0.toList = a1.toList then 0 else 1) else if a0.size < a1.size then -1 else 1) else none
set_option maxHeartbeats 1000000 in
theorem decimal_Compare.calls (a0 a1 : ByteArray) (r : Int) (w : World) (h : decimal_Compare.f a0 a1 = some r) :
  Calls Tryz.prog 114 #[.string a0, .string a1] w fun e w' => e = .returned (.int .i64 r) ∧ Below w.heap.size w w' := by
 unfold decimal_Compare.f at h
 split at h
 ·rename_i hb
  injection h with h
  obtain ⟨b0, b1⟩ := hb
  by_cases hs : a0.size = a1.size
  ·rw [if_pos hs] at h
   have hs1 : ((a0.size : Int) != (a1.size : Int)) = false := by simp [hs]
   by_cases hl : Op.bytesLess a0.toList a1.toList = true
   ·rw [if_pos hl] at h
    subst h
    clear hs
    go_enter Tryz.func114, Tryz.ntmps114
    go_wp2
    go_ret
    exact ⟨rfl, by first | exact Below.refl _ _ | exact pw_below_drewN (Below.refl _ _) _⟩
   ·rw [if_neg hl] at h
    have hl' : Op.bytesLess a0.toList a1.toList = false := by simpa using hl
    by_cases he : a0.toList = a1.toList
    ·rw [if_pos he] at h
     subst h
     have he' : (a0.toList == a1.toList) = true := by simp [he]
     clear hs hl he
     go_enter Tryz.func114, Tryz.ntmps114
     go_wp2
     go_ret
     exact ⟨rfl, by first | exact Below.refl _ _ | exact pw_below_drewN (Below.refl _ _) _⟩
    ·rw [if_neg he] at h
     subst h
     have he' : (a0.toList == a1.toList) = false := by simp [he]
     clear hs hl
     go_enter Tryz.func114, Tryz.ntmps114
     go_wp2
     go_ret
     exact ⟨rfl, by first | exact Below.refl _ _ | exact pw_below_drewN (Below.refl _ _) _⟩
  ·rw [if_neg hs] at h
   have hs1 : ((a0.size : Int) != (a1.size : Int)) = true := by simp; omega
   by_cases hl : a0.size < a1.size
   ·rw [if_pos hl] at h
    subst h
    have hd : (a0.size : Int) - (a1.size : Int) ≤ -1 := by omega
    clear hl hs
    go_enter Tryz.func114, Tryz.ntmps114
    go_wp2
    all_goals first | (exfalso; rename_i hx _; split at hx <;> omega) | (exfalso; rename_i hx; split at hx <;> omega) | (exfalso; omega) | skip
    all_goals (go_ret; exact ⟨rfl, by first | exact Below.refl _ _ | exact pw_below_drewN (Below.refl _ _) _⟩)
   ·rw [if_neg hl] at h
    subst h
    have hd : 1 ≤ (a0.size : Int) - (a1.size : Int) := by omega
    have hd2 : -1 < (a0.size : Int) - (a1.size : Int) := by omega
    clear hl hs
    go_enter Tryz.func114, Tryz.ntmps114
    go_wp2
    all_goals first | (exfalso; rename_i hx _; split at hx <;> omega) | (exfalso; rename_i hx; split at hx <;> omega) | (exfalso; omega) | skip
    all_goals (go_ret; exact ⟨rfl, by first | exact Below.refl _ _ | exact pw_below_drewN (Below.refl _ _) _⟩)
 ·cases h
end Go.Proofs.YtccebdpjdpjgnaaGreatDoor.P
end
section
namespace Go.Proofs.YtccebdpjdpjgnaaGreatDoor.P
open Go.RowKit Go.Proofs.YtccebdpjdpjgnaaGreatDoorW.PrintWords Go.Proofs.YtccebdpjdpjgnaaGreatDoorW.PrintLast Go.Proofs.YtccebdpjdpjgnaaGreatDoorW.PrintMore
attribute [local go_sem] max2_int min2_int max_two min_two max_three min_three max_four min_four

end Go.Proofs.YtccebdpjdpjgnaaGreatDoor.P
end
