/-
The row and the card of MonzoParses.
-/
import Derived.Test.YtccebdpjdpjgnaaGreatDoorTie
import Derived.Test.YtccebdpjdpjgnaaGreatDoorCards
import Derived.SevenTiedAt
import Derived.Test.YtccebdpjdpjgnaaGreatDoorMPF
import Derived.Test.YtccebdpjdpjgnaaGreatDoorMP43
set_option linter.unusedVariables false
set_option linter.unusedSimpArgs false
namespace Go.Proofs.YtccebdpjdpjgnaaGreatDoor.D.MonzoParses
open Go.ChangeShapes Go.WideShapes Go.ChangeAt Go.RowKit Go.Proofs.YtccebdpjdpjgnaaGreatDoor.P Go.Proofs.YtccebdpjdpjgnaaGreatDoor.Q Go.Proofs.YtccebdpjdpjgnaaGreatDoorW.PrintWords
set_option linter.unusedVariables false
set_option maxRecDepth 100000
theorem met (os : Os) (args : Array Value) : laidMetH Tryz.prog L7 ((World.laidAll Tryz.prog os L7).forCall (fun _ _ => 0) ⟨#[], args, []⟩).memory := by
 rw [MakeChecks.laidMetH_plain _ _ _ (by kernel_rfl)]
 exact laidMet_laidAll _ (by kernel_rfl) (by kernel_rfl)
theorem lifted (os : Os) (started : os.Started) (H : Type) (enc : TypeId × Value → H) :
  ReturnsInHanded {} Tryz.checked os 20 .any (fun w args => (Rows.monzoParsesSpec.pre enc Tryz.prog Tryz.f20 [] false w args ∧ laidMetH Tryz.prog L7 w) ∧ sizedMet enc Tryz.prog Tryz.f20 (OpenSpec.ofChange Rows.monzoParsesSpec) false w args)
   (Rows.monzoParsesSpec.post enc Tryz.prog Tryz.f20 false true false false) := by
 refine change_and_shaped (C := Tryz.checked) (X := fun w _ => laidMetH Tryz.prog L7 w) (fun _ _ _ hh h => h.of_heap hh) own started (by kernel_rfl) Tryz.func20 (ChangeSpec.witness_shaped (enc := enc) (C := Tryz.checked) (os := os) (X := fun w _ => laidMetH Tryz.prog L7 w) false (World.laidAll Tryz.prog os L7) #[.agg #[.int .u8 0, .int .i8 0, .int .i8 0, .int .i8 0, .int .i8 0]] 8 (World.laidAll_os _ _ _) (World.shaped_of_ZipB (by kernel_rfl) (by kernel_rfl)) (by kernel_rfl) (by kernel_rfl) (by kernel_rfl) (met os _)) ?_
 intro W base args ds gs before hval0 hW _ hL hsh
 have hT := tabW_of_laid7 hL hsh
 have hval : ∀ (j : Nat) t v, Tryz.f20.params[j]? = some t → args[j]? = some v → Value.okWide Tryz.prog W .any base t v := hval0
 have hW' := hW
 obtain ⟨p, q, hA0, hV, rfl, hfz, hnd⟩ := hW
 have hA : DataW.TrodAll enc Tryz.prog W 0 (fun _ => true) true Tryz.f20.params.toList args.toList ds p := hA0
 rw [Tryz.params20] at hA hval
 obtain ⟨v0, vs0, d0, ds0, p0, q0, hargs, rfl, rfl, h0, r0⟩ := trodAll_cons hA
 obtain ⟨rfl, rfl, rfl⟩ := trodAll_nil r0
 obtain rfl : args = #[v0] := by cases args; simp_all
 obtain ⟨rfl, rfl⟩ := trodVars_none hV
 have lt0 : ∀ x ∈ p0, x.block < W.heap.size := by obtain ⟨m, hm⟩ := h0; exact DataW.trod_lt m _ _ _ hm
 have g0 := h0
 obtain ⟨x0, x1, x2, x3, x4, rfl, ha0, ha1⟩ := open_plan (hval 0 50 v0 rfl rfl)
 clear hA0 hval0
 obtain ⟨k, hk⟩ := (parses_ev x0 x1 x2 x3 x4 ha0 ha1).rounds
 refine (schismalaw12_MonzoParses.calls k x0 x1 x2 x3 x4 true W hT hk rfl).mono fun e W' ⟨he, bel⟩ => ?_
 subst he
 exact ⟨_, rfl, _, _, _, [], _, [], hW', trodAll_mk1 (shut_bool Tryz.underlying4 _), (trodAll_cons_mk (Below.trod laidOut (by kernel_rfl) (of_decide_eq_true (by kernel_rfl)) g0 bel lt0) trodAll_mk0), rfl, bel.frame _, fun h => by cases h⟩
theorem holds : Rows.MonzoParsesSaid :=
 OpenClaim.holds_of_wide (p := Tryz.pinned) (s := Rows.monzoParsesSpec) (c := Rows.monzoParsesRow) 20 Tryz.f20 rfl rfl rfl rfl rfl rfl rfl ⟨rfl, rfl, rfl, rfl, rfl⟩ rfl rfl rfl rfl rfl named Tryz.func20 closed inst wrap
  (fun os started H enc _ => lifted os started H enc)
end Go.Proofs.YtccebdpjdpjgnaaGreatDoor.D.MonzoParses
namespace Go.Proofs.YtccebdpjdpjgnaaGreatDoor
theorem monzoParses_card_holds : Rows.MonzoParsesCardSaid :=
 Claim7.holds_tied_plain_at .later [] [.data, .data, .data, .data, .sentinel, .sentinel, .pinned] true (true, "f57e5dc9ce9f0a8485cfc4c3a0b0a03292939c15d71d60950981aa626424c6ed") true
  D.MonzoParses.holds (fun _ h => by cases h) D.MonzoParses.wft (fun _ h => by cases h) monzoParses_row_tie rfl ⟨rfl, rfl⟩ D.MonzoParses.main rfl
  (fun f fn hf hfn => by
   obtain rfl : f = 20 := Option.some.inj (D.MonzoParses.named.symm.trans hf) |>.symm
   obtain rfl : fn = Tryz.f20 := (Option.some.inj (Tryz.func20.symm.trans hfn)).symm
   exact ⟨D.MonzoParses.looks, fun j t ht => by
    rw [Tryz.params20] at ht
    have hm : t ∈ [50] := by simpa using Array.mem_of_getElem? ht
    have hall : ([50].all fun u => !Tryz.prog.wantsStandIn u) = true := by kernel_rfl
    exact (show Tryz.prog.wantsStandIn t = false by simpa using List.all_eq_true.1 hall t hm)⟩)
  D.MonzoParses.goes
end Go.Proofs.YtccebdpjdpjgnaaGreatDoor
