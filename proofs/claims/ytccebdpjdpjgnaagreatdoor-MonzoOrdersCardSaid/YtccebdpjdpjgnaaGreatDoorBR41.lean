/-
Plain law: MonzoLaws.
-/
import Derived.Test.YtccebdpjdpjgnaaGreatDoorBR39
import Derived.Test.YtccebdpjdpjgnaaGreatDoorBR40
set_option linter.unusedVariables false
set_option linter.unusedSimpArgs false
namespace Go.Proofs.YtccebdpjdpjgnaaGreatDoor.Q
open Go.Lib hiding bytesOf bytesOf_length
open Go Go.RowKit Sch Go.Proofs.YtccebdpjdpjgnaaGreatDoor.P Go.Proofs.YtccebdpjdpjgnaaGreatDoorW.PrintWords Go.Proofs.YtccebdpjdpjgnaaGreatDoorW.PrintLast Go.Proofs.YtccebdpjdpjgnaaGreatDoorW.PrintMore
set_option linter.unusedVariables false
set_option linter.unusedSimpArgs false
theorem add_ok {ps : List Nat} {xs ys : List Int} {a b : Int} (h : okL ps = true) (hx : xs.length = ps.length) (hy : ys.length = ps.length) (sx : Small a xs) (sy : Small b ys) (hab : 0 ≤ a ∧ 0 ≤ b ∧ a + b ≤ 1000) :
  Ev (fun k => monzo_Add.f k (il ps) xs ys) (comb 1 xs ys, 0) ∧ (comb 1 xs ys).length = ps.length ∧ Small (a + b) (comb 1 xs ys) := by
 have fx : Fit ps xs := okL_fit h hx (fun x m => by have := sx x m; omega)
 have fy : Fit ps ys := okL_fit h hy (fun x m => by have := sy x m; omega)
 have s := Small.comb (s := 1) (.inl rfl) sx sy
 refine ⟨Ev.eq (fx.add fy) (s.farR hab.2.2), by rw [comb_len, hx, hy, Nat.min_self], s⟩
end Go.Proofs.YtccebdpjdpjgnaaGreatDoor.Q
