/-
The closed facts of the row of MonzoParses.
-/
import Derived.Test.YtccebdpjdpjgnaaGreatDoorRows
import Derived.JoinedOf
import Derived.SevenTiedAt
import Derived.KernelRfl
set_option linter.unusedVariables false
set_option linter.unusedSimpArgs false
namespace Go.Proofs.YtccebdpjdpjgnaaGreatDoor.D.MonzoParses
open Go
set_option maxRecDepth 100000
theorem c0 : (Rows.monzoParsesRow.wf (OpenSpec.ofChange Rows.monzoParsesSpec)) = true := by kernel_rfl
theorem c1 : (laidOutB Tryz.prog) = true := by kernel_rfl
theorem c2 : (mapsRowed Tryz.prog) = true := by kernel_rfl
theorem c3 : (Tryz.f20.params.all (Tryz.prog.readableRec ·)) = true := by kernel_rfl
theorem c4 : (namedTie Tryz.prog Rows.monzoParsesRow.named Rows.monzoParsesSpec.vars) = true := by kernel_rfl
theorem c5 : ((Rows.monzoParsesRow.stops == [])) = true := by kernel_rfl
theorem c6 : ((Tryz.prog.stops == [])) = true := by kernel_rfl
theorem c7 : ((Rows.monzoParsesRow.knobs == [])) = true := by kernel_rfl
theorem c8 : ((Tryz.prog.stopKnobs == [])) = true := by kernel_rfl
theorem c9 : ((Rows.monzoParsesRow.inPlace == Tryz.prog.inPlace 20)) = true := by kernel_rfl
theorem c10 : ((Rows.monzoParsesRow.unfollowed == Tryz.prog.unfollowed 20)) = true := by kernel_rfl
theorem c11 : ((Rows.monzoParsesRow.recurses == Tryz.prog.recurses 20)) = true := by kernel_rfl
theorem c12 : ((Rows.monzoParsesRow.named == Tryz.prog.varsNamed 20)) = true := by kernel_rfl
theorem c13 : ((Rows.monzoParsesRow.maps == (Tryz.f20.params.toList ++ Rows.monzoParsesSpec.plain.varTypes Tryz.prog).any (Tryz.prog.mapsRec ·))) = true := by kernel_rfl
theorem c14 : ((Rows.monzoParsesRow.ifaces == (Tryz.f20.params.toList ++ Rows.monzoParsesSpec.plain.varTypes Tryz.prog).any (Tryz.prog.ifacesRec ·))) = true := by kernel_rfl
theorem c15 : ((Rows.monzoParsesRow.mapsOut == Tryz.prog.mapsAmong Tryz.f20.resultTypes.toList)) = true := by kernel_rfl
theorem c16 : ((Rows.monzoParsesRow.loops == (Tryz.f20.params.toList ++ Rows.monzoParsesSpec.plain.varTypes Tryz.prog).any (Tryz.prog.loopsFrom ·))) = true := by kernel_rfl
theorem c17 : ((Rows.monzoParsesRow.wideKeys == (Tryz.f20.params.toList ++ Rows.monzoParsesSpec.plain.varTypes Tryz.prog ++ Tryz.f20.resultTypes.toList).any (Tryz.prog.wideKeysFrom ·))) = true := by kernel_rfl
theorem c18 : (Rows.monzoParsesSpec.vars.all (Tryz.prog.varReadable ·)) = true := by kernel_rfl
theorem c19 : (Tryz.f20.resultTypes.all (fun t => Tryz.prog.readableRec t && decide (t < Tryz.prog.types.size))) = true := by kernel_rfl
theorem c20 : ((Rows.monzoParsesRow.ifacesOut == Tryz.f20.resultTypes.toList.any (Tryz.prog.ifacesRec ·))) = true := by kernel_rfl
theorem c21 : ((Rows.monzoParsesRow.loopsOut == Tryz.f20.resultTypes.toList.any (Tryz.prog.loopsFrom ·))) = true := by kernel_rfl
theorem c22 : ((Rows.monzoParsesRow.plainKeys == Tryz.prog.plainKeys)) = true := by kernel_rfl
theorem c23 : (Rows.monzoParsesRow.shortTexts.isNone) = true := by kernel_rfl
theorem c24 : (Tryz.prog.stopsHeard) = true := by kernel_rfl
theorem c25 : (Tryz.prog.mayEnter) = true := by kernel_rfl
theorem c26 : ((Rows.monzoParsesRow.lifted == Tryz.prog.liftsFinal)) = true := by kernel_rfl
theorem c27 : ((Tryz.prog.make == some Rows.monzoParsesRow.make)) = true := by kernel_rfl
theorem c28 : ((Rows.monzoParsesRow.kinds == (if Rows.monzoParsesRow.domain.isEmpty then [] else Tryz.f20.params.toList.map fun t => match Tryz.prog.underlying t with | some (.int k) => some k | _ => none))) = true := by kernel_rfl
theorem c29 : ((Rows.monzoParsesRow.pinned == Rows.monzoParsesRow.pinnedBy)) = true := by kernel_rfl
theorem c30 : ((Rows.monzoParsesRow.veiled == (Tryz.f20.params.toList ++ Rows.monzoParsesSpec.plain.varTypes Tryz.prog ++ Tryz.f20.resultTypes.toList).any (Tryz.prog.veiledRec ·))) = true := by kernel_rfl
theorem c31 : (Rows.monzoParsesRow.veiledFits Tryz.prog Tryz.f20.params.toList (Tryz.f20.params.toList ++ Rows.monzoParsesSpec.plain.varTypes Tryz.prog ++ Tryz.f20.resultTypes.toList)) = true := by kernel_rfl
theorem both {a b : Bool} (ha : a = true) (hb : b = true) : (a && b) = true := by rw [ha, hb]; rfl
theorem closed : joinedFacts Tryz.checked.prog 20 Tryz.f20 Rows.monzoParsesSpec Rows.monzoParsesRow = true := (both (both (both (both (both (both (both (both (both (both (both (both (both (both (both (both (both (both (both (both (both (both (both (both (both (both (both (both (both (both (both c0 c1) c2) c3) c4) c5) c6) c7) c8) c9) c10) c11) c12) c13) c14) c15) c16) c17) c18) c19) c20) c21) c22) c23) c24) c25) c26) c27) c28) c29) c30) c31)
theorem named : Tryz.checked.prog.funcNamed Rows.monzoParsesRow.func = some 20 := by kernel_rfl
theorem inst : Tryz.f20.isInstance Tryz.checked.prog Rows.monzoParsesRow.origin Rows.monzoParsesRow.targs := of_decide_eq_true (by kernel_rfl)
theorem wrap : Tryz.f20.isWrapper Tryz.checked.prog Rows.monzoParsesRow.wrapper Rows.monzoParsesRow.mainSum := by unfold Func.isWrapper; first | (rw [if_pos (by decide +kernel)]; kernel_rfl) | (rw [if_neg (by decide +kernel)]; exact ⟨rfl, rfl⟩)
theorem wft : Rows.monzoParsesRow.wfByText (OpenSpec.ofChange Rows.monzoParsesSpec) = true := by kernel_rfl
theorem main : Tryz.pinned.checked.prog.mainIs = some (true, "f57e5dc9ce9f0a8485cfc4c3a0b0a03292939c15d71d60950981aa626424c6ed".toList) := by kernel_rfl
theorem looks : true = Tryz.pinned.checked.prog.looks [] := by kernel_rfl
theorem goes : false = Rows.monzoParsesRow.goesBy Tryz.pinned.checked.prog := by kernel_rfl
end Go.Proofs.YtccebdpjdpjgnaaGreatDoor.D.MonzoParses
