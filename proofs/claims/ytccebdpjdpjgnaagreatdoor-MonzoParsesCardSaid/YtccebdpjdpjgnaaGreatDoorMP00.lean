/-
What the listed package variables give at every later moment of the run: a premise of our own contracts, nothing more.
-/
import Derived.Test.YtccebdpjdpjgnaaGreatDoorProg
import Derived.Below
import Derived.Lib.LaidTab
import Derived.Lib.SmallJoins
import Derived.Lib.ItoaNum
import Derived.KernelRfl
set_option linter.unusedVariables false
set_option linter.unusedSimpArgs false
namespace Go.Proofs.YtccebdpjdpjgnaaGreatDoor
open Go Go.RowKit Go.Joins
def errW : Option Int → Value
 | none => .nilIface
 | some c => .iface 249 (.pointer (some ⟨c.toNat, 0, none⟩))
theorem errW_none : errW none = .nilIface := rfl
theorem errW_some (c : Int) : errW (some c) = .iface 249 (.pointer (some ⟨c.toNat, 0, none⟩)) := rfl
def ErrIs : Option Int → Value → Prop
 | none, x => x = .nilIface
 | some _, x => ∃ q : Nat, x = .iface 249 (.pointer (some ⟨q, 0, none⟩))
theorem errIs_none {x : Value} (h : ErrIs none x) : x = .nilIface := h
theorem errIs_some {x : Value} {c : Int} (h : ErrIs (some c) x) : ∃ q : Nat, x = .iface 249 (.pointer (some ⟨q, 0, none⟩)) := h
def TabW (w : World) : Prop := Lib.TabIs Tryz.prog w "internal/strconv.uint64pow10" .u64 Lib.pow10Tab ∧
 (∃ tp p, w.var? Tryz.prog "strconv.ErrSyntax" = some #[.iface tp p]) ∧ (∃ tp p, w.var? Tryz.prog "strconv.ErrRange" = some #[.iface tp p]) ∧ (∃ m, w.cell? ⟨2, 0, none⟩ = some (.int .i64 m))
theorem var_on {W W' : World} {n : String} {cs : Array Value} (h : W.var? Tryz.prog n = some cs) (hb : Below W.heap.size W W') : W'.var? Tryz.prog n = some cs := by
 cases hg : Tryz.prog.globalNamed n with
 | none => unfold World.var? at h; rw [hg] at h; cases h
 | some g => exact var_stays hg h hb (Nat.le_refl _)
theorem TabW.below {w w' : World} (h : TabW w) (hb : Below w.heap.size w w') : TabW w' := by
 obtain ⟨h1, ⟨t2, p2, h2⟩, ⟨t3, p3, h3⟩, ⟨m, h4⟩⟩ := h
 exact ⟨var_on h1 hb, ⟨t2, p2, var_on h2 hb⟩, ⟨t3, p3, var_on h3 hb⟩, ⟨m, (hb.cell (World.block_lt_of_cell? w _ h4)).trans h4⟩⟩
end Go.Proofs.YtccebdpjdpjgnaaGreatDoor
