/-
parts of the walks and of the plain laws: ExtGrow ExtSort ExtWithin PapiPrimesint89
-/
import Derived.Shelf.Spec.SlicesGrow
import Derived.Sort.EveryDepth
import Derived.Shelf.SortM.AssemblyIn
import Derived.Shelf.SlicesG.CompactI
import Derived.Sort.OwnSortedInts
import Derived.Lib.OwnBridge
import Derived.Shelf.SlicesG.Turned
import Derived.Test.YtccebdpjdpjgnaaGreatDoorJN36
set_option linter.unusedVariables false
set_option linter.unusedSimpArgs false
section
namespace Go.Proofs
def Tryz.laysG149_ren : Go.Shelf.Ren := ⟨fun | 4 => 149 | n => n, fun | 22 => 23 | 25 => 3 | n => n, fun n => n⟩
theorem Tryz.laysG149 : Go.Proofs.Lays8.n4 Tryz.prog Tryz.laysG149_ren := {
 mixed := by kernel_rfl
 f4 := ⟨Tryz.f149.name, by decide, Tryz.func149.trans (congrArg some (by kernel_rfl))⟩
 t0 := Tryz.underlying0
 a0 := Tryz.isAgg0
 z0 := Tryz.sizeOf0
 v0 := Tryz.zeroValue0
 t3 := Tryz.underlying3
 a3 := Tryz.isAgg3
 z3 := Tryz.sizeOf3
 v3 := Tryz.zeroValue3
 t4 := Tryz.underlying4
 a4 := Tryz.isAgg4
 z4 := Tryz.sizeOf4
 v4 := Tryz.zeroValue4
 t9 := Tryz.underlying9
 a9 := Tryz.isAgg9
 z9 := Tryz.sizeOf9
 v9 := Tryz.zeroValue9
 t20 := Tryz.underlying20
 a20 := Tryz.isAgg20
 z20 := Tryz.sizeOf20
 v20 := Tryz.zeroValue20
 t22 := Tryz.underlying23
 a22 := Tryz.isAgg23
 z22 := Tryz.sizeOf23
 v22 := Tryz.zeroValue23 }
end Go.Proofs
namespace Go.Proofs.YtccebdpjdpjgnaaGreatDoor.P
open Go.RowKit Go.Proofs.YtccebdpjdpjgnaaGreatDoorW.PrintWords Go.Proofs.YtccebdpjdpjgnaaGreatDoorW.PrintLast Go.Proofs.YtccebdpjdpjgnaaGreatDoorW.PrintMore
set_option linter.unusedVariables false
def api_Primes_int_149.f (l0 : List Int) (a1 : Int) : Option (List Int) := if l0 = [] ∧ 0 < a1 ∧ a1 ≤ 1000 then some [] else none
theorem api_Primes_int_149.calls (A0 : Option Addr) (c0 : Nat) (l0 : List Int) (a1 : Int) (r : List Int) (w : World) (hr0 : Kd.C (Kd.int .i64) w A0 l0.length l0) (hc0 : c0 ≤ l0.length) (h : api_Primes_int_149.f l0 a1 = some r) :
  Calls Tryz.prog 149 #[.slice A0 l0.length c0, .int .i64 a1] w fun e w' => ∃ v0_ : Value, e = .returned (v0_) ∧ Kd.R (Kd.int .i64) 3 w' w.heap.size (fun _ => True) v0_ r ∧ Below w.heap.size w w' := by
 unfold api_Primes_int_149.f at h
 by_cases hl : l0 = [] ∧ 0 < a1 ∧ a1 ≤ 1000
 ·rw [if_pos hl] at h
  injection h with h
  subst h
  obtain ⟨rfl, h1, h2⟩ := hl
  obtain rfl : c0 = 0 := by simpa using hc0
  obtain ⟨n, rfl⟩ := Int.eq_ofNat_of_zero_le (show 0 ≤ a1 by omega)
  have hn : n ≤ 1000 := by omega
  have hn0 : 0 < n := by omega
  obtain ⟨i0, hi0, hz0, hs0, hb0⟩ : ∃ i0, Tryz.prog.info? 3 = some i0 ∧ i0.zero = some (.int .i64 0) ∧ i0.size = 1 ∧ i0.bytes = 8 := by
   have h3 := info3
   cases hi : Tryz.prog.info? 3 with
   | none => rw [hi] at h3; cases h3
   | some i0 =>
    rw [hi] at h3
    simp only [Option.map_some, Option.some.injEq, Prod.mk.injEq] at h3
    exact ⟨i0, rfl, h3.1, h3.2.1, h3.2.2⟩
  have hcon := Any8.slices_Grow_grow Tryz.laysG149 i0 (.int .i64 0) hi0 hz0 (by omega) A0 0 0 n [] w (Nat.le_refl _) (by omega) (by rw [hb0]; omega) (by omega) (by simp) (fun _ => rfl) (fun a _ j v hj => by simp at hj)
  refine hcon.mono ?_
  rintro e w' ⟨rfl, rfl⟩
  have hge := grownCap_ge w (0 + n) 0 3
  have hle := grownCap_le_maxLen w (0 + n) 0 3 (by unfold maxLen; omega)
  refine ⟨_, rfl, Kd.R_of_own (enc := Value.int .i64) (h1 := fun _ => rfl) ⟨rfl, .inr ⟨w.heap.size, _, _, rfl, Nat.le_refl _, (by show (w.heap.push _)[w.heap.size]? = _; exact Array.getElem?_push_size), Nat.zero_le _, hle, ?_, rfl⟩⟩ (fun _ _ => trivial), below_alloc (below_drew1 (Below.refl _ _)) _⟩
  have hge2 : n ≤ grownCap w n 0 3 := by have := hge; rwa [Nat.zero_add] at this
  have hc1 : (Value.int IntKind.i64 0).cells.size = 1 := rfl
  have hr25 : Tryz.laysG149_ren.t 25 = 3 := rfl
  simp only [Builtin.zeroCells, Nat.zero_add, hc1, hr25, Array.size_append, Array.size_map, Array.size_range, Nat.mul_one, Nat.sub_zero]
  simp
  omega
 ·rw [if_neg hl] at h; cases h
end Go.Proofs.YtccebdpjdpjgnaaGreatDoor.P
end
section
namespace Go.Proofs
def Tryz.laysS90_ren : Go.Shelf.Ren := ⟨fun | 5 => 90 | 8 => 151 | 7 => 150 | 19 => 204 | 20 => 172 | 10 => 195 | 11 => 196 | 12 => 197 | 13 => 198 | 14 => 199 | 15 => 200 | 16 => 201 | 17 => 202 | 18 => 203 | 30 => 241 | 31 => 242 | 32 => 243 | 33 => 244 | 34 => 245 | 35 => 246 | 40 => 272 | n => n, fun | 23 => 23 | 25 => 3 | 3 => 3 | 32 => 143 | 22 => 22 | 0 => 0 | 44 => 226 | 46 => 139 | 4 => 4 | 36 => 219 | 35 => 218 | 41 => 112 | 5 => 5 | 9 => 9 | 53 => 259 | 57 => 263 | 63 => 285 | 64 => 286 | n => n, fun | n => n⟩
theorem Tryz.laysS90 : Go.Proofs.SlLaysM.n5 Tryz.prog Tryz.laysS90_ren := {
 mixed := by kernel_rfl
 f5 := ⟨Tryz.f90.name, by decide, Tryz.func90.trans (congrArg some (by kernel_rfl))⟩
 f7 := ⟨Tryz.f150.name, by decide, Tryz.func150.trans (congrArg some (by kernel_rfl))⟩
 f8 := Tryz.func151.trans (congrArg some (by kernel_rfl))
 f10 := ⟨Tryz.f195.name, by decide, Tryz.func195.trans (congrArg some (by kernel_rfl))⟩
 f11 := ⟨Tryz.f196.name, by decide, Tryz.func196.trans (congrArg some (by kernel_rfl))⟩
 f12 := ⟨Tryz.f197.name, by decide, Tryz.func197.trans (congrArg some (by kernel_rfl))⟩
 f13 := ⟨Tryz.f198.name, by decide, Tryz.func198.trans (congrArg some (by kernel_rfl))⟩
 f14 := ⟨Tryz.f199.name, by decide, Tryz.func199.trans (congrArg some (by kernel_rfl))⟩
 f15 := ⟨Tryz.f200.name, by decide, Tryz.func200.trans (congrArg some (by kernel_rfl))⟩
 f16 := ⟨Tryz.f201.name, by decide, Tryz.func201.trans (congrArg some (by kernel_rfl))⟩
 f17 := ⟨Tryz.f202.name, by decide, Tryz.func202.trans (congrArg some (by kernel_rfl))⟩
 f18 := ⟨Tryz.f203.name, by decide, Tryz.func203.trans (congrArg some (by kernel_rfl))⟩
 f19 := Tryz.func204.trans (congrArg some (by kernel_rfl))
 f20 := Tryz.func172.trans (congrArg some (by kernel_rfl))
 f30 := ⟨Tryz.f241.name, by decide, Tryz.func241.trans (congrArg some (by kernel_rfl))⟩
 f31 := Tryz.func242.trans (congrArg some (by kernel_rfl))
 f32 := Tryz.func243.trans (congrArg some (by kernel_rfl))
 f33 := ⟨Tryz.f244.name, by decide, Tryz.func244.trans (congrArg some (by kernel_rfl))⟩
 f34 := ⟨Tryz.f245.name, by decide, Tryz.func245.trans (congrArg some (by kernel_rfl))⟩
 f35 := ⟨Tryz.f246.name, by decide, Tryz.func246.trans (congrArg some (by kernel_rfl))⟩
 f40 := ⟨Tryz.f272.name, by decide, Tryz.func272.trans (congrArg some (by kernel_rfl))⟩
 t0 := Tryz.underlying0
 a0 := Tryz.isAgg0
 z0 := Tryz.sizeOf0
 v0 := Tryz.zeroValue0
 t3 := Tryz.underlying3
 a3 := Tryz.isAgg3
 z3 := Tryz.sizeOf3
 v3 := Tryz.zeroValue3
 t4 := Tryz.underlying4
 a4 := Tryz.isAgg4
 z4 := Tryz.sizeOf4
 v4 := Tryz.zeroValue4
 t5 := Tryz.underlying5
 a5 := Tryz.isAgg5
 z5 := Tryz.sizeOf5
 v5 := Tryz.zeroValue5
 t9 := Tryz.underlying9
 a9 := Tryz.isAgg9
 z9 := Tryz.sizeOf9
 v9 := Tryz.zeroValue9
 t22 := Tryz.underlying22
 a22 := Tryz.isAgg22
 z22 := Tryz.sizeOf22
 v22 := Tryz.zeroValue22
 t23 := Tryz.underlying23
 a23 := Tryz.isAgg23
 z23 := Tryz.sizeOf23
 v23 := Tryz.zeroValue23
 t25 := Tryz.underlying3
 a25 := Tryz.isAgg3
 z25 := Tryz.sizeOf3
 v25 := Tryz.zeroValue3
 t32 := Tryz.underlying143
 a32 := Tryz.isAgg143
 z32 := Tryz.sizeOf143
 v32 := Tryz.zeroValue143
 t35 := Tryz.underlying218
 a35 := Tryz.isAgg218
 z35 := Tryz.sizeOf218
 v35 := Tryz.zeroValue218
 t36 := Tryz.underlying219
 a36 := Tryz.isAgg219
 z36 := Tryz.sizeOf219
 v36 := Tryz.zeroValue219
 t41 := Tryz.underlying112
 a41 := Tryz.isAgg112
 z41 := Tryz.sizeOf112
 v41 := Tryz.zeroValue112
 t44 := Tryz.underlying226
 a44 := Tryz.isAgg226
 z44 := Tryz.sizeOf226
 v44 := Tryz.zeroValue226
 t46 := Tryz.underlying139
 a46 := Tryz.isAgg139
 z46 := Tryz.sizeOf139
 v46 := Tryz.zeroValue139
 t53 := Tryz.underlying259
 a53 := Tryz.isAgg259
 z53 := Tryz.sizeOf259
 v53 := Tryz.zeroValue259
 t57 := Tryz.underlying263
 a57 := Tryz.isAgg263
 z57 := Tryz.sizeOf263
 v57 := Tryz.zeroValue263
 t63 := Tryz.underlying285
 a63 := Tryz.isAgg285
 z63 := Tryz.sizeOf285
 v63 := Tryz.zeroValue285
 t64 := Tryz.underlying286
 a64 := Tryz.isAgg286
 z64 := Tryz.sizeOf286
 v64 := Tryz.zeroValue286 }
def Tryz.laysS91_ren : Go.Shelf.Ren := ⟨fun | 43 => 91 | n => n, fun | 22 => 23 | 23 => 3 | 3 => 3 | 4 => 4 | 0 => 0 | n => n, fun | n => n⟩
theorem Tryz.laysS91 : Go.Proofs.SlLaysN.n43 Tryz.prog Tryz.laysS91_ren := {
 mixed := by kernel_rfl
 f43 := ⟨Tryz.f91.name, by decide, Tryz.func91.trans (congrArg some (by kernel_rfl))⟩
 t0 := Tryz.underlying0
 a0 := Tryz.isAgg0
 z0 := Tryz.sizeOf0
 v0 := Tryz.zeroValue0
 t3 := Tryz.underlying3
 a3 := Tryz.isAgg3
 z3 := Tryz.sizeOf3
 v3 := Tryz.zeroValue3
 t4 := Tryz.underlying4
 a4 := Tryz.isAgg4
 z4 := Tryz.sizeOf4
 v4 := Tryz.zeroValue4
 t22 := Tryz.underlying23
 a22 := Tryz.isAgg23
 z22 := Tryz.sizeOf23
 v22 := Tryz.zeroValue23
 t23 := Tryz.underlying3
 a23 := Tryz.isAgg3
 z23 := Tryz.sizeOf3
 v23 := Tryz.zeroValue3
 i23 := by kernel_rfl }
end Go.Proofs
namespace Go.Proofs.YtccebdpjdpjgnaaGreatDoor.P
open Go.RowKit Go.Sort Go.Proofs.YtccebdpjdpjgnaaGreatDoorW.PrintWords Go.Proofs.YtccebdpjdpjgnaaGreatDoorW.PrintLast Go.Proofs.YtccebdpjdpjgnaaGreatDoorW.PrintMore
set_option linter.unusedVariables false
def sortL (l : List Int) : List Int := l.mergeSort fun x y => decide (x ≤ y)
theorem sortL_length (l : List Int) : (sortL l).length = l.length := List.length_mergeSort _
def api_Primes_int_90.f (l0 : List Int) : Option (List Int) := if 0 < l0.length ∧ l0.length < 1000 then some (sortL l0) else none
def api_Primes_int_91.f (l0 : List Int) : Option (List Int) := if 0 < l0.length then some (Lib.compact l0) else none
theorem api_Primes_int_90.calls (P0_ : Nat → Prop) (u9000_ : Value) (l0 : List Int) (r : List Int) (w0 w : World) (hB : Below w0.heap.size w0 w) (ho0 : Kd.R (Kd.int .i64) 3 w w0.heap.size P0_ u9000_ l0) (h : api_Primes_int_90.f l0 = some r) :
  Calls Tryz.prog 90 #[u9000_] w fun e w' => e = .returned (.tuple #[]) ∧ Kd.R (Kd.int .i64) 3 w' w0.heap.size (fun k_ => (P0_ k_ ∨ w.heap.size ≤ k_)) u9000_ r ∧ Below w0.heap.size w0 w' ∧ Kept w w' (fun k_ => P0_ k_) := by
 unfold api_Primes_int_90.f at h
 by_cases hl : 0 < l0.length ∧ l0.length < 1000
 ·rw [if_pos hl] at h
  injection h with h
  obtain ⟨ad, c, hv⟩ := Kd.R_slice1 ho0 hl.1
  have hp := ho0.1
  have ho := Kd.own_of_R (enc := Value.int .i64) (h1 := fun _ => rfl) ho0
  rcases ho.2 with ⟨h0, _⟩ | ⟨g, cap, cur, hv2, hge, hblk, hn, hcap, hsz, htk⟩
  ·rw [hv] at h0; cases h0
  ·subst hv2
   have hg : g < w.heap.size := (Array.getElem?_eq_some_iff.1 hblk).1
   rw [Nat.mul_one] at htk
   refine (calls_of_every_depth fun D => AnySM.slices_Sort_int_in Tryz.laysS90 D g 0 cap l0 w (holds_of_blockI hblk htk) hg (by omega)).mono ?_
   rintro e w' ⟨rfl, n, os, rfl⟩
   have hR := ownsRow_sortedI (n := n) (os := os) (ts := sortL l0) (sortL_length l0) hge hblk hn hcap hsz
   have hgr := grownBy_sortedI (w := w) (g := g) (n := n) (os := os) (sortL l0).toArray
   have hk : Kept w (grow (putRow (Value.int .i64) (Sort.ahead w n) g 0 (sortL l0).toArray) os) (fun k_ => P0_ k_) := Kept.of_grown hgr (Kept.refl w _) (fun k hk => .inl (hp k (by rw [← hk]; rfl)))
   have hb : Below w0.heap.size w0 (grow (putRow (Value.int .i64) (Sort.ahead w n) g 0 (sortL l0).toArray) os) := hB.grown hgr hB.size (fun k hk => by cases hk; exact hge)
   have hR2 := Kd.R_of_own (enc := Value.int .i64) (h1 := fun _ => rfl) (ok := fun k_ => (P0_ k_ ∨ w.heap.size ≤ k_)) (show (grow (putRow (Value.int .i64) (Sort.ahead w n) g 0 (sortL l0).toArray) os).ownsRow w0.heap.size 3 1 (.slice (some ⟨g, 0, none⟩) l0.length cap) (sortL l0).length ((sortL l0).map (Value.int .i64)) by rw [sortL_length]; exact hR) (fun k hk => .inl (hp k hk))
   rw [← h]
   exact ⟨rfl, hR2, hb, hk⟩
 ·rw [if_neg hl] at h; cases h
theorem api_Primes_int_91.calls (P0_ : Nat → Prop) (u9000_ : Value) (l0 : List Int) (r : List Int) (w0 w : World) (hB : Below w0.heap.size w0 w) (ho0 : Kd.R (Kd.int .i64) 3 w w0.heap.size P0_ u9000_ l0) (h : api_Primes_int_91.f l0 = some r) :
  Calls Tryz.prog 91 #[u9000_] w fun e w' => ∃ v0_ : Value, e = .returned (v0_) ∧ Kd.R (Kd.int .i64) 3 w' w0.heap.size (fun k_ => (P0_ k_ ∨ w.heap.size ≤ k_)) v0_ r ∧ Below w0.heap.size w0 w' ∧ Kept w w' (fun k_ => P0_ k_) := by
 unfold api_Primes_int_91.f at h
 by_cases hl : 0 < l0.length
 ·rw [if_pos hl] at h
  injection h with h
  obtain ⟨ad, c, hv⟩ := Kd.R_slice1 ho0 hl
  have hp := ho0.1
  have ho := Kd.own_of_R (enc := Value.int .i64) (h1 := fun _ => rfl) ho0
  obtain ⟨g, cap, rfl, hge, hg1, hcap, hmax, _, hH⟩ := Lib.holds_of_ownsRow ho (by rw [hv]; intro e; cases e)
  have hmx : l0.length ≤ 9223372036854775807 := by unfold maxLen at hmax; omega
  have hfl := Lib.compact_length_le l0
  refine (AnyG.slices_Compact_int Tryz.laysS91 g 0 cap l0 w hH hmx hcap).mono ?_
  rintro e w' ⟨rfl, q, rfl⟩
  obtain ⟨K, hK⟩ : ∃ K, K = Lib.compact l0 := ⟨_, rfl⟩
  rw [← hK] at hfl h ⊢
  have hy : (K ++ List.replicate (l0.length - K.length) (0 : Int)).length = l0.length := by simp; omega
  have htk : (K ++ List.replicate (l0.length - K.length) (0 : Int)).take K.length = K := List.take_left
  have hown := Lib.ownsRow_putRow (q := q) (k := K.length) ho hy hfl
  rw [htk] at hown
  refine ⟨_, rfl, ?_, Lib.below_putRow hB hge, ?_⟩
  ·rw [← h]
   exact Kd.R_of_own (enc := Value.int .i64) (h1 := fun _ => rfl) hown (fun k hk => .inl (hp k hk))
  ·exact Kept.of_grown (grownBy_sortedI (w := w) (g := g) (n := q) (os := #[]) _) (Kept.refl w _) (fun k hk => .inl (hp k (by rw [← hk]; rfl)))
 ·rw [if_neg hl] at h; cases h
end Go.Proofs.YtccebdpjdpjgnaaGreatDoor.P
end
section
namespace Go.Proofs
def Tryz.laysW146_ren : Go.Shelf.Ren := ⟨fun | 8 => 146 | 6 => 179 | n => n, fun | 22 => 23 | 23 => 3 | 25 => 80 | n => n, fun n => n⟩
theorem Tryz.laysW146 : Go.Proofs.SlLaysH.n8 Tryz.prog Tryz.laysW146_ren := {
 mixed := by kernel_rfl
 f6 := ⟨Tryz.f179.name, by decide, Tryz.func179.trans (congrArg some (by kernel_rfl))⟩
 f8 := ⟨Tryz.f146.name, by decide, Tryz.func146.trans (congrArg some (by kernel_rfl))⟩
 t0 := Tryz.underlying0
 a0 := Tryz.isAgg0
 z0 := Tryz.sizeOf0
 v0 := Tryz.zeroValue0
 t3 := Tryz.underlying3
 a3 := Tryz.isAgg3
 z3 := Tryz.sizeOf3
 v3 := Tryz.zeroValue3
 t4 := Tryz.underlying4
 a4 := Tryz.isAgg4
 z4 := Tryz.sizeOf4
 v4 := Tryz.zeroValue4
 t22 := Tryz.underlying23
 a22 := Tryz.isAgg23
 z22 := Tryz.sizeOf23
 v22 := Tryz.zeroValue23
 a23 := Tryz.isAgg3
 z23 := Tryz.sizeOf3
 t25 := Tryz.underlying80
 a25 := Tryz.isAgg80
 z25 := Tryz.sizeOf80
 v25 := Tryz.zeroValue80 }
def Tryz.laysW148_ren : Go.Shelf.Ren := ⟨fun | 31 => 148 | 29 => 70 | n => n, fun | 22 => 23 | 23 => 3 | n => n, fun n => n⟩
theorem Tryz.laysW148 : Go.Proofs.SlLaysN.n31 Tryz.prog Tryz.laysW148_ren := {
 mixed := by kernel_rfl
 f29 := ⟨Tryz.f70.name, by decide, Tryz.func70.trans (congrArg some (by kernel_rfl))⟩
 f31 := ⟨Tryz.f148.name, by decide, Tryz.func148.trans (congrArg some (by kernel_rfl))⟩
 t0 := Tryz.underlying0
 a0 := Tryz.isAgg0
 z0 := Tryz.sizeOf0
 v0 := Tryz.zeroValue0
 t3 := Tryz.underlying3
 a3 := Tryz.isAgg3
 z3 := Tryz.sizeOf3
 v3 := Tryz.zeroValue3
 t4 := Tryz.underlying4
 a4 := Tryz.isAgg4
 z4 := Tryz.sizeOf4
 v4 := Tryz.zeroValue4
 t22 := Tryz.underlying23
 a22 := Tryz.isAgg23
 z22 := Tryz.sizeOf23
 v22 := Tryz.zeroValue23
 t23 := Tryz.underlying3
 a23 := Tryz.isAgg3
 z23 := Tryz.sizeOf3
 v23 := Tryz.zeroValue3 }
end Go.Proofs
namespace Go.Proofs.YtccebdpjdpjgnaaGreatDoor.P
open Go.RowKit Go.Proofs.YtccebdpjdpjgnaaGreatDoorW.PrintWords Go.Proofs.YtccebdpjdpjgnaaGreatDoorW.PrintLast Go.Proofs.YtccebdpjdpjgnaaGreatDoorW.PrintMore
set_option linter.unusedVariables false
theorem contains_one (A : Option Addr) (c : Nat) (zs : List Int) (x : Int) (W : World) (hr : Kd.C (Kd.int .i64) W A zs.length zs) :
  Calls Tryz.prog 148 #[.slice A zs.length c, .int .i64 x] W fun e w' => e = .returned (.bool (zs.contains x)) ∧ w' = W := by
 by_cases h0 : zs.length = 0
 ·obtain rfl := List.length_eq_zero_iff.1 h0
  refine (AnyG.slices_Contains_int_empty Tryz.laysW148 A c x W).mono ?_
  rintro e w' ⟨rfl, rfl⟩
  exact ⟨rfl, rfl⟩
 ·obtain ⟨b, o, rfl, hbk, hcells⟩ := C_flat hr (by omega)
  have := AnyG.slices_Contains_int Tryz.laysW148 b o zs.length c zs x W (Nat.le_refl _) hr.2.1 (fun j hj => by
   have := hcells j (zs.getD j 0) (by rw [List.getD_eq_getElem?_getD, List.getElem?_eq_getElem hj]; rfl)
   exact this)
  rw [List.take_length] at this
  exact this
theorem within_gives (zs : List Int) (A : Option Addr) (c : Nat) (x : Int) (B : Nat) (W : World) (hc : W.cell? ⟨B, 0, none⟩ = some (.slice A zs.length c)) (hr : Kd.C (Kd.int .i64) W A zs.length zs) :
  FnGives Tryz.prog 147 #[.pointer (some ⟨B, 0, none⟩)] #[.int .i64 x] (.bool (!zs.contains x)) W := by
 show Calls Tryz.prog 147 #[.int .i64 x, .pointer (some ⟨B, 0, none⟩)] W _
 have hcon := contains_one A c zs x W hr
 generalize zs.contains x = r at hcon ⊢
 clear hr
 go_enter Tryz.func147, Tryz.ntmps147
 go_wp2_with fail
 refine hcon.mono ?_
 rintro e w1 ⟨rfl, rfl⟩
 go_wp2
 go_ret
 exact ⟨rfl, 0, rfl⟩
def prime_Within.f (k : Nat) (l0 l1 : List Int) : Option (Bool × Int) := (prime_two.f k l0 l1).bind fun e => if e = 0 then some (!(l0.any fun n => !(l1.contains n)), 0) else some (false, e)
set_option maxHeartbeats 1000000 in
theorem prime_Within.calls (k : Nat) (A0 : Option Addr) (c0 : Nat) (l0 : List Int) (A1 : Option Addr) (c1 : Nat) (l1 : List Int) (r1 : Bool) (r2 : Int) (w : World) (hr0 : Kd.C (Kd.int .i64) w A0 l0.length l0) (hc0 : l0.length ≤ c0) (hr1 : Kd.C (Kd.int .i64) w A1 l1.length l1) (hc1 : l1.length ≤ c1) (h : prime_Within.f k l0 l1 = some (r1, r2)) :
  Calls Tryz.prog 87 #[.slice A0 l0.length c0, .slice A1 l1.length c1] w fun e w' => e = .returned (.tuple #[.bool r1, .int .i64 r2]) ∧ Below w.heap.size w w' := by
 unfold prime_Within.f at h
 have hb0 : Below w.heap.size w (w.alloc (.cells #[.slice A1 l1.length c1] 23)) := below_alloc (Below.refl _ _) _
 obtain ⟨e, he, h⟩ := Option.bind_eq_some_iff.mp h
 go_enter Tryz.func87, Tryz.ntmps87
 go_wp2_with fail
 refine (prime_two.calls k _ _ l0 _ _ l1 e _ (Kd.C_below hr0 hb0) hc0 (Kd.C_below hr1 hb0) hc1 he).mono ?_
 rintro e' w1 ⟨rfl, q1, rfl⟩
 have hb1 : Below w.heap.size w ((w.alloc (.cells #[.slice A1 l1.length c1] 23)).drewN q1) := pw_below_drewN hb0 q1
 have hcell : ((w.alloc (.cells #[.slice A1 l1.length c1] 23)).drewN q1).cell? ⟨w.heap.size, 0, none⟩ = some (.slice A1 l1.length c1) := by
  show (w.alloc (.cells #[.slice A1 l1.length c1] 23)).cell? ⟨w.heap.size, 0, none⟩ = _
  simp
 have hsz : ((w.alloc (.cells #[.slice A1 l1.length c1] 23)).drewN q1).heap.size = w.heap.size + 1 := by
  show (w.alloc (.cells #[.slice A1 l1.length c1] 23)).heap.size = _
  simp
 have r0 := Kd.C_below hr0 hb1
 have r1' := Kd.C_below hr1 hb1
 clear hr0 hr1 hb0
 generalize (w.alloc (.cells #[.slice A1 l1.length c1] 23)).drewN q1 = w1 at *
 by_cases hz : e = 0
 ·rw [if_pos hz] at h
  simp only [Option.some.injEq, Prod.mk.injEq] at h
  obtain ⟨h1, rfl⟩ := h
  subst hz
  have hcon : Calls Tryz.prog 146 #[.slice A0 l0.length c0, .func (.func 147) #[] #[.pointer (some ⟨w.heap.size, 0, none⟩)]] w1 fun e w' => e = .returned (.bool (l0.any fun n => !(l1.contains n))) ∧ ∃ q, w' = w1.drewN q := by
   by_cases h0 : l0.length = 0
   ·obtain rfl := List.length_eq_zero_iff.1 h0
    refine (AnyE.slices_ContainsFunc_empty Tryz.laysW146 A0 c0 (.func (.func 147) #[] #[.pointer (some ⟨w.heap.size, 0, none⟩)]) w1).mono ?_
    rintro e w' ⟨rfl, rfl⟩
    exact ⟨rfl, 0, rfl⟩
   ·obtain ⟨b, o, rfl, hbk, hcells⟩ := C_flat r0 (by omega)
    have := AnyE.slices_ContainsFunc Tryz.laysW146 (α := Int) (Value.int .i64) (fun n => !(l1.contains n)) 147 #[.pointer (some ⟨w.heap.size, 0, none⟩)] (enters_ Tryz.func147 rfl rfl) b o l0.length c0 l0 w1
     (fun W x hb => within_gives l1 A1 c1 x w.heap.size W ((hb.cell (p := ⟨w.heap.size, 0, none⟩) (by show w.heap.size < w1.heap.size; omega)).trans hcell) (Kd.C_below r1' hb)) (Nat.le_refl _) r0.2.1 (fun j hj => by
     have := hcells j (l0[j]!) (by rw [List.getElem?_eq_getElem hj, getElem!_pos l0 j hj])
     exact this)
    rw [List.take_length] at this
    exact this
  generalize (l0.any fun n => !(l1.contains n)) = r at hcon h1
  clear r0 r1'
  go_wp2_with fail
  refine hcon.mono ?_
  rintro e w2 ⟨rfl, q, rfl⟩
  go_wp2
  go_ret2
  exact ⟨by rw [← h1]; rfl, by repeat (first | (with_reducible first | exact hb1 | apply below_alloc | apply pw_below_drewN | apply below_drew1) | exact hb1)⟩
 ·rw [if_neg hz] at h
  simp only [Option.some.injEq, Prod.mk.injEq] at h
  obtain ⟨rfl, rfl⟩ := h
  have he1 : (e != 0) = true := bne_iff_ne.mpr hz
  clear r0 r1'
  go_wp2
  go_ret2
  exact ⟨rfl, by repeat (first | (with_reducible first | exact hb1 | apply below_alloc | apply pw_below_drewN | apply below_drew1) | exact hb1)⟩
end Go.Proofs.YtccebdpjdpjgnaaGreatDoor.P
end
section
namespace Go.Proofs.YtccebdpjdpjgnaaGreatDoor.P
open Go.RowKit Go.Proofs.YtccebdpjdpjgnaaGreatDoorW.PrintWords Go.Proofs.YtccebdpjdpjgnaaGreatDoorW.PrintLast Go.Proofs.YtccebdpjdpjgnaaGreatDoorW.PrintMore
attribute [local go_sem] max2_int min2_int max_two min_two max_three min_three max_four min_four
mutual
def api_Primes_int_89.l0 : Nat → List (List Int) → Int → List (List Int) → Int → Int → Option (List Int)
  | 0, _, _, _, _, _ => none
  | k + 1, x0, x3, x9, x10, x11 => if x11 < x10 then (if 0 ≤ x11 then (if x11 < (x9.length : Int) then (if (wrap64 (x3 + ((rd_L2 x9 x11).length : Int))) < 0 then (none) else (api_Primes_int_89.l0 k x0 (wrap64 (x3 + ((rd_L2 x9 x11).length : Int))) x9 x10 (wrap64 (x11 + 1)))) else (none)) else (none)) else ((api_Primes_int_149.f ([] : List Int) x3).bind fun t1646 => (api_Primes_int_89.l1 k t1646 x0 (x0.length : Int) 0))
def api_Primes_int_89.l1 : Nat → List Int → List (List Int) → Int → Int → Option (List Int)
  | 0, _, _, _, _ => none
  | k + 1, x6, x25, x26, x27 => if x27 < x26 then (if 0 ≤ x27 then (if x27 < (x25.length : Int) then (if x6.length + (rd_L2 x25 x27).length < 17592186044416 then (api_Primes_int_89.l1 k (x6 ++ (rd_L2 x25 x27)) x25 x26 (wrap64 (x27 + 1))) else (none)) else (none)) else (none)) else (some x6)
end
def api_Primes_int_89.f (k : Nat) (l0 : List (List Int)) : Option (List Int) := api_Primes_int_89.l0 k l0 0 l0 (l0.length : Int) 0
set_option maxHeartbeats 8000000 in
set_option maxRecDepth 100000 in
theorem api_Primes_int_89.calls (k : Nat) (A0 : Option Addr) (c0 : Nat) (l0 : List (List Int)) (r : List Int) (w : World) (hr0 : Kd.C (Kd.slice 3 (Kd.int .i64)) w A0 l0.length l0) (hc0 : l0.length ≤ c0) (h : api_Primes_int_89.f k l0 = some r) :
    Calls Tryz.prog 89 #[.slice A0 l0.length c0] w fun e w' => ∃ v0_ : Value, e = .returned (v0_) ∧ Kd.R (Kd.int .i64) 3 w' w.heap.size (fun _ => True) v0_ r ∧ Below w.heap.size w w' := by
  have HR0 := Aside0.mk hr0
  have HC0 := Aside0.mk hc0
  clear hr0 hc0
  have HB := Aside0.mk (Below.refl w.heap.size w)
  have H : (api_Primes_int_89.l0 k l0 0 l0 (l0.length : Int) 0) = some r := h
  clear h
  have H' := Aside0.mk H
  clear H
  go_enter Tryz.func89, Tryz.ntmps89
  go_wp2
  go_loopg [3, 11] k (fun kq v3 v11 w' => ∃ (x3_1 : Int) (x11_1 : Int), v3 = .int .i64 x3_1 ∧ v11 = .int .i64 x11_1 ∧ Aside0 (api_Primes_int_89.l0 kq l0 x3_1 l0 (l0.length : Int) x11_1 = some r) ∧ Aside0 (kq ≤ k) ∧ Aside0 (Below w.heap.size w w'))
  case atStart => exact ⟨(0), (0), (by first | rfl | (simp; done) | (simp [*]; done)), (by first | rfl | (simp; done) | (simp [*]; done)), H', ⟨Nat.le_refl _⟩, ⟨by repeat (first | (with_reducible first | exact HB.out | apply below_alloc | apply pw_below_drewN | apply below_drew1) | exact HB.out)⟩⟩
  case round =>
    clear H'
    obtain ⟨x3_1, x11_1, rfl, rfl, HA, HK1, HB⟩ := hrel
    cases gk with
    | zero => exact absurd HA.out (by simp [api_Primes_int_89.l0])
    | succ k1 =>
      have H := HA.out
      clear HA
      simp only [api_Primes_int_89.l0] at H
      by_cases c2 : x11_1 < (l0.length : Int)
      · rw [if_pos c2] at H
        have c2b0 : decide (x11_1 < (l0.length : Int)) = true := decide_eq_true c2
        clear c2
        by_cases c3 : 0 ≤ x11_1
        · rw [if_pos c3] at H
          have c3b0 : decide (0 ≤ x11_1) = true := decide_eq_true c3
          clear c3
          by_cases c4 : x11_1 < (l0.length : Int)
          · rw [if_pos c4] at H
            have c4b0 : decide (x11_1 < (l0.length : Int)) = true := decide_eq_true c4
            clear c4
            by_cases c5 : (wrap64 (x3_1 + ((rd_L2 l0 x11_1).length : Int))) < 0
            · rw [if_pos c5] at H
              exact absurd H (by simp)
            · rw [if_neg c5] at H
              have c5b0 : decide ((wrap64 (x3_1 + ((rd_L2 l0 x11_1).length : Int))) < 0) = false := decide_eq_false c5
              clear c5
              have H' := Aside0.mk H
              clear H
              have p1645 : 0 ≤ (x11_1 : Int) := of_decide_eq_true (by first | (with_reducible assumption) | assumption)
              have q1645 : x11_1 < (l0.length : Int) := of_decide_eq_true (by first | (with_reducible assumption) | assumption)
              obtain ⟨ad1645, A1645_0, c1645_0, e1645, hx1645_0, hl1645_0, hi1645_0⟩ := at_L2 HR0.out x11_1 p1645 q1645
              cases e1645
              replace hx1645_0 := (HB.out.cell (World.block_lt_of_cell? w _ hx1645_0)).trans hx1645_0
              have HR1645_0 := Aside0.mk hi1645_0
              have HC1645_0 := Aside0.mk hl1645_0
              clear hi1645_0 hl1645_0
              replace p1645 := eq_true p1645
              replace q1645 := eq_true q1645
              go_wp2
              go_roundg k1
              case measure => have := HK1.out; omega
              case rel => exact ⟨(wrap64 (x3_1 + ((rd_L2 l0 x11_1).length : Int))), (wrap64 (x11_1 + 1)), (by first | rfl | (simp; done) | (simp [*]; done)), (by first | rfl | (simp; done) | (simp [*]; done)), H', ⟨by have := HK1.out; omega⟩, ⟨by repeat (first | (with_reducible first | exact HB.out | apply below_alloc | apply pw_below_drewN | apply below_drew1) | exact HB.out)⟩⟩
          · rw [if_neg c4] at H
            exact absurd H (by simp)
        · rw [if_neg c3] at H
          exact absurd H (by simp)
      · rw [if_neg c2] at H
        have c2b0 : decide (x11_1 < (l0.length : Int)) = false := decide_eq_false c2
        clear c2
        replace H := Option.bind_eq_some_iff.mp H
        obtain ⟨t1646, A60, H⟩ := H
        replace H : (api_Primes_int_89.l1 k1 t1646 l0 (l0.length : Int) 0) = some r := H
        have A6 := Aside0.mk A60
        clear A60
        have H' := Aside0.mk H
        clear H
        go_wp2_with (first | ((with_reducible refine gate_callee (f := 149) rfl ?_); refine goesL_ (some 24) rfl rfl Tryz.func149 (by kernel_rfl) rfl #[.slice none 0 0, .int .i64 x3_1] rfl (by (try simp only [List.map_toArray, List.map_cons, List.map_nil]); first | done | rfl | (simp only [List.length_drop, List.length_take]; rfl)) ?_; (refine (api_Primes_int_149.calls _ _ ([] : List Int) x3_1 t1646 _ ?side1 ?side2 A6.out).mono ?_); (case side1 => exact Kd.C_nil _ _); (case side2 => exact Nat.le_refl _); rintro e w7 ⟨v1647, rfl, ho0, hb⟩; refine ⟨_, rfl, ?_⟩; have n0_ := Aside0.mk (Kd.R_lower ho0 (below_size (by repeat (first | (with_reducible first | exact HB.out | apply below_alloc | apply pw_below_drewN | apply below_drew1) | exact HB.out)))); have n1_ := Aside0.mk (below_step (by repeat (first | (with_reducible first | exact HB.out | apply below_alloc | apply pw_below_drewN | apply below_drew1) | exact HB.out)) hb); clear HB; have HO1648 := n0_; have HB := n1_; clear n0_ n1_; (try clear hb); (try clear hb2); (try clear hk); (try clear hi); (try clear ho0)))
        go_loopg [6, 27] k1 (fun kq v6 v27 w' => ∃ (x6_2 : List Int) (x27_2 : Int), v27 = .int .i64 x27_2 ∧ Aside0 (api_Primes_int_89.l1 kq x6_2 l0 (l0.length : Int) x27_2 = some r) ∧ Aside0 (kq ≤ k1) ∧ Aside0 (Kd.R (Kd.int .i64) 3 w' w.heap.size (fun _ => True) v6 x6_2) ∧ Aside0 (Below w.heap.size w w'))
        case atStart => exact ⟨(t1646), (0), (by first | rfl | (simp; done) | (simp [*]; done)), H', ⟨Nat.le_refl _⟩, ⟨by (with_reducible repeat (first | apply Kd.R_alloc | apply Kd.R_drewN | apply Kd.R_drew)); exact HO1648.out⟩, ⟨by repeat (first | (with_reducible first | exact HB.out | apply below_alloc | apply pw_below_drewN | apply below_drew1) | exact HB.out)⟩⟩
        case round =>
          clear H'
          try clear c1
          try clear p1
          try clear q1
          try clear hx1
          try clear c2
          try clear c2b0
          try clear p2
          try clear c3
          try clear c3b0
          try clear c4
          try clear c4b0
          try clear c5
          try clear c5b0
          try clear p6
          try clear hx1645_0
          try clear p1645
          try clear q1645
          obtain ⟨x6_2, x27_2, rfl, HA, HK2, HO_6, HB⟩ := hrel
          cases gk with
          | zero => exact absurd HA.out (by simp [api_Primes_int_89.l1])
          | succ k2 =>
            have H := HA.out
            clear HA
            simp only [api_Primes_int_89.l1] at H
            by_cases c8 : x27_2 < (l0.length : Int)
            · rw [if_pos c8] at H
              have c8b0 : decide (x27_2 < (l0.length : Int)) = true := decide_eq_true c8
              clear c8
              by_cases c9 : 0 ≤ x27_2
              · rw [if_pos c9] at H
                have c9b0 : decide (0 ≤ x27_2) = true := decide_eq_true c9
                clear c9
                by_cases c10 : x27_2 < (l0.length : Int)
                · rw [if_pos c10] at H
                  have c10b0 : decide (x27_2 < (l0.length : Int)) = true := decide_eq_true c10
                  clear c10
                  by_cases c11 : x6_2.length + (rd_L2 l0 x27_2).length < 17592186044416
                  · rw [if_pos c11] at H
                    have LMc11 := Aside0.mk c11
                    clear c11
                    obtain ⟨y1650, hy1650⟩ : ∃ y_ : List Int, y_ = (x6_2 ++ (rd_L2 l0 x27_2)) := ⟨_, rfl⟩
                    replace H : (api_Primes_int_89.l1 k2 y1650 l0 (l0.length : Int) (wrap64 (x27_2 + 1))) = some r := by first | (rw [hy1650]; with_reducible exact H) | (have H2_ := (Option.bind_some _ _).symm.trans H; rw [hy1650]; with_reducible exact H2_) | (have H2_ := (Option.bind_some _ _).symm.trans H; with_reducible exact H2_) | with_reducible exact H | (rw [hy1650]; exact H) | exact H
                    have Ny1650 := Aside0.mk hy1650
                    clear hy1650
                    have H' := Aside0.mk H
                    clear H
                    have p1649 : 0 ≤ (x27_2 : Int) := of_decide_eq_true (by first | (with_reducible assumption) | assumption)
                    have q1649 : x27_2 < (l0.length : Int) := of_decide_eq_true (by first | (with_reducible assumption) | assumption)
                    obtain ⟨ad1649, A1649_0, c1649_0, e1649, hx1649_0, hl1649_0, hi1649_0⟩ := at_L2 HR0.out x27_2 p1649 q1649
                    cases e1649
                    replace hx1649_0 := (HB.out.cell (World.block_lt_of_cell? w _ hx1649_0)).trans hx1649_0
                    have HR1649_0 := Aside0.mk hi1649_0
                    have HC1649_0 := Aside0.mk hl1649_0
                    clear hi1649_0 hl1649_0
                    replace p1649 := eq_true p1649
                    replace q1649 := eq_true q1649
                    go_wp2_with (first | ((with_reducible refine gate_builtin (b := .append) (xs := #[.tmp 31, .tmp 32]) rfl ?_); at_builtin; refine Kd.R_append_rows (Kd.int .i64) (w0 := w) w.heap.size rfl (.tmp 31) (.tmp 32) 23 3 (.int .i64 0) 8 rfl Tryz.underlying23 info3 rfl (by decide) (by omega) u6 x6_2 (rd_L2 l0 x27_2) _ _ _ (fun _ => True) (fun _ => False) rfl rfl ?aO ?aR (fun _ _ h => h) (fun _ h => h.elim) ?aF ?aB ?aS ?aL ?_; (case aR => repeat (first | exact (Kd.C_below HR1649_0.out HB.out) | (with_reducible refine Kd.C_alloc ?_ _) | (with_reducible refine Kd.C_drewN ?_ _) | (with_reducible refine Kd.C_drew ?_))); (case aB => exact (by repeat (first | (with_reducible first | exact HB.out | apply below_alloc | apply pw_below_drewN | apply below_drew1) | exact HB.out))); (case aF => exact (fun _ _ => trivial)); (case aO => exact (by (with_reducible repeat (first | apply Kd.R_alloc | apply Kd.R_drewN | apply Kd.R_drew)); exact HO_6.out)); (case aS => exact (below_size (by repeat (first | (with_reducible first | exact HB.out | apply below_alloc | apply pw_below_drewN | apply below_drew1) | exact HB.out)))); (case aL => have := LMc11.out; omega); intro v1651 w12 ho hb hg hat; rw [← Ny1650.out] at ho; have n0_ := Aside0.mk (hb); have n1_ := Aside0.mk (ho); clear HB; clear HO_6; have HB := n0_; have HO1652 := n1_; clear n0_ n1_; clear ho hb hg hat))
                    go_roundg k2
                    case measure => have := HK1.out; have := HK2.out; omega
                    case rel => exact ⟨(y1650), (wrap64 (x27_2 + 1)), (by first | rfl | (simp; done) | (simp [*]; done)), H', ⟨by have := HK1.out; have := HK2.out; omega⟩, ⟨by (with_reducible repeat (first | apply Kd.R_alloc | apply Kd.R_drewN | apply Kd.R_drew)); exact HO1652.out⟩, ⟨by repeat (first | (with_reducible first | exact HB.out | apply below_alloc | apply pw_below_drewN | apply below_drew1) | exact HB.out)⟩⟩
                  · rw [if_neg c11] at H
                    exact absurd H (by simp)
                · rw [if_neg c10] at H
                  exact absurd H (by simp)
              · rw [if_neg c9] at H
                exact absurd H (by simp)
            · rw [if_neg c8] at H
              have c8b0 : decide (x27_2 < (l0.length : Int)) = false := decide_eq_false c8
              clear c8
              obtain rfl := Option.some.inj H
              go_wp2
              go_ret
              exact ⟨_, by first | rfl | (simp [errW_none, errW_some] <;> rfl) | (simp [*, errW_none, errW_some] <;> rfl), by (with_reducible repeat (first | apply Kd.R_alloc | apply Kd.R_drewN | apply Kd.R_drew)); exact HO_6.out, by repeat (first | (with_reducible first | exact HB.out | apply below_alloc | apply pw_below_drewN | apply below_drew1) | exact HB.out)⟩
end Go.Proofs.YtccebdpjdpjgnaaGreatDoor.P
end
