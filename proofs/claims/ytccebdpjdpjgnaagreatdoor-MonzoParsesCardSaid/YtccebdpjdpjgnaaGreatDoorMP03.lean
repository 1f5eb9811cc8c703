/-
Two laws beside the printed words: a slice made with a capacity of its own and no elements, and the bytes of a string as a row that is read.
-/
import Derived.KernelRfl
import Derived.Test.YtccebdpjdpjgnaaGreatDoorMP02
set_option linter.unusedVariables false
set_option linter.unusedSimpArgs false
namespace Go.Proofs.YtccebdpjdpjgnaaGreatDoorW.PrintWords
open Go.RowKit
set_option linter.unusedVariables false
namespace Kd
section
variable {P : Program} {ops : Array Oper} {rest : List Oper} {o : Oper} {a : Act} {Q : Exit → Act → World → Prop}
variable {α : Type}
theorem R_makecap (d : Kd α) {w0 W : World} (base e : Nat) (hgd : o.guard = none) {N : Tmp} (_hd : o.dst = some N) (t : TypeId) (x y : Operand) (ho : o.op = .makeSlice t x y) (n : Int) (hx : a.eval x = .int .i64 0) (hy : a.eval y = .int .i64 n)
  (ht : P.underlying t = some (.slice e)) (z : Value) (bytes : Nat) (hinfo : (P.info? e).map (fun i => (i.zero, i.size, i.bytes)) = some (some z, d.sz, bytes)) (hz : z.cells.size = d.sz) (hs0 : 0 < d.sz) (hb0 : 0 < bytes)
  {ok : Nat → Prop} (hfresh : ok W.heap.size) (h0 : 0 ≤ n) (hl : n.toNat * bytes ≤ 281474976710656) (HB : Below base w0 W) (hbase : base ≤ W.heap.size)
  (h : ∀ v1 w1, d.R e w1 base ok v1 [] → Below base w0 w1 → W.grownBy w1 none → (∃ b, v1.ownBlock = some b ∧ W.heap.size ≤ b) → wpList P ops Q rest (a.put o.dst v1) w1) : wpList P ops Q (o :: rest) a W := by
 obtain ⟨m, rfl⟩ := Int.eq_ofNat_of_zero_le h0
 simp only [Int.toNat_natCast] at hl
 obtain ⟨i0, hi, hzz⟩ := Option.map_eq_some_iff.1 hinfo
 simp only [Prod.mk.injEq] at hzz
 obtain ⟨hz0, hz1, hz2⟩ := hzz
 have hm : m ≤ 281474976710656 := Nat.le_trans (Nat.le_mul_of_pos_right _ hb0) hl
 have hr := run_make (P := P) W t e i0 z ht hi hz0 .i64 .i64 (0 : Int) (m : Int) (by omega) (by omega)
  (by
   have h3 : ((i0.bytes * m : Nat) : Int) ≤ 281474976710656 := by rw [hz2, Nat.mul_comm]; omega
   rwa [Int.natCast_mul] at h3) (by omega)
 simp only [Int.toNat_natCast, Int.toNat_zero] at hr
 rw [hz1] at hr
 have hrun : (execOp a.eval o).run P W = .ok (.value (.slice (some ⟨W.heap.size, 0, none⟩) 0 m)) (W.alloc (.cells (madeCells z.cells (m * d.sz)) e)) := by
  simp [execOp, ho, hx, hy, hr]
 have h2 := World.ownsRow_lit (base := base) (e := e) (size := d.sz) W (madeCells z.cells (m * d.sz)) m hbase (by simp only [maxLen]; omega) (by simp [size_madeCells])
 have h3 := own_take h2 (Nat.zero_le m)
 simp only [Nat.zero_mul, List.take_zero] at h3
 refine event_run hgd hrun (h _ _ ⟨fun k hk => ?_, [], h3, Reps.none _ _⟩ (HB.alloc hbase _) (World.grownBy_alloc W _ none) ⟨W.heap.size, by simp [Value.ownBlock], Nat.le_refl _⟩)
 have : W.heap.size = k := by simpa [Value.ownBlock] using hk
 subst this
 exact hfresh
theorem cell_of_heap {W W' : World} {p : Addr} (h : W'.heap[p.block]? = W.heap[p.block]?) : W'.cell? p = W.cell? p := by
 unfold World.cell?
 rw [h]
theorem V_bytes {w0 W : World} (base e : Nat) (hgd : o.guard = none) {N : Tmp} (_hd : o.dst = some N) (src dst : TypeId) (x : Operand) (ho : o.op = .convert src dst x) (s : ByteArray) (hx : a.eval x = .string s)
  {u : TypeDesc} (hs : P.underlying src = some u) (ht : P.underlying dst = some (.slice e)) (he : P.underlying e = some (.int .u8))
  {ok : Nat → Prop} (hfresh : ok W.heap.size) (hl : s.size ≤ 9223372036854775807) (HB : Below base w0 W) (hbase : base ≤ W.heap.size)
  (h : ∀ v1 w1, V (Kd.int .u8) e w1 base ok v1 (bytesOf s) → Below base w0 w1 → W.grownBy w1 none → (∃ b, v1.ownBlock = some b ∧ W.heap.size ≤ b) → wpList P ops Q rest (a.put o.dst v1) w1) : wpList P ops Q (o :: rest) a W := by
 have hr := print_bytes (P := P) src dst e hs ht he s W
 have hrun : (execOp a.eval o).run P W = .ok (.value (.slice (some ⟨W.heap.size, 0, none⟩) s.size (grownCap W s.size 0 e))) (Lib.bytesWorld W e s) := by
  simp [execOp, ho, hx, hr]
 have hb : Below W.heap.size W (Lib.bytesWorld W e s) := bytes_below (Below.refl _ _) (Nat.le_refl _) e s
 refine event_run hgd hrun (h _ _ ⟨some ⟨W.heap.size, 0, none⟩, grownCap W s.size 0 e, by rw [bytesOf_length], ?_, ?_⟩ (bytes_below HB hbase e s) (grown_of_below hb none) ⟨W.heap.size, by simp [Value.ownBlock], Nat.le_refl _⟩)
 ·rw [bytesOf_length]
  exact grownCap_ge W s.size 0 e
 ·rw [bytesOf_length]
  intro W' hW
  refine C_of_reads (d := (0 : Int)) (h1 := fun _ => rfl) ?_
  have h1 := bytes_reads W e s hl
  refine ⟨h1.1, h1.2.1, fun hn => ?_⟩
  obtain ⟨ad, e1, hc⟩ := h1.2.2 hn
  injection e1 with e1
  subst e1
  refine ⟨_, rfl, fun j hj => ?_⟩
  have h2 := hc j hj
  rw [add_plain] at h2 ⊢
  rw [cell_of_heap (hW W.heap.size hfresh (by rw [Lib.bytesWorld_size]; omega))]
  exact h2
end
end Kd
end Go.Proofs.YtccebdpjdpjgnaaGreatDoorW.PrintWords
namespace Go.Proofs.YtccebdpjdpjgnaaGreatDoorW.PrintLast
open Go.RowKit Go.Proofs.YtccebdpjdpjgnaaGreatDoorW.PrintWords
section
variable {P : Program} {ops : Array Oper} {Q : Exit → Act → World → Prop}
theorem goesK {rest : List Oper} {oi : Oper} {a : Act} {w : World} (N : Option Tmp) {f : FuncId} {fn : Func} {as : Array Operand} {ts : Array TypeId} (hf : P.funcs[f]? = some fn) (args : List Value)
  (hop : oi.op = .call { callee := .value (.func f), args := as, argTypes := ts }) (hargs : as.toList.map a.eval = args)
  (h : Calls P f args.toArray w fun e w' => ∃ v, e = .returned v ∧ wpList P ops Q rest (a.put N v) w')
  (hd : oi.dst = N := by rfl) (hg : oi.guard = none := by rfl) (hname : (fn.name == "runtime.NumGoroutine") = false := by kernel_rfl) (hb : fn.body.isSome = true := by rfl) : wpList P ops Q (oi :: rest) a w :=
 goesL_ N hd hg hf hname hb args.toArray hop (by rw [← hargs]; cases as; simp) h
end
end Go.Proofs.YtccebdpjdpjgnaaGreatDoorW.PrintLast
