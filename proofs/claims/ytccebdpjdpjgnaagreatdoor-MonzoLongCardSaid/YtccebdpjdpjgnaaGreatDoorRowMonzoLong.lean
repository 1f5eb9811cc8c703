/-
The row and the card of MonzoLong.
-/
import Derived.Test.YtccebdpjdpjgnaaGreatDoorTie
import Derived.Test.YtccebdpjdpjgnaaGreatDoorCards
import Derived.SevenTiedAt
import Derived.Test.YtccebdpjdpjgnaaGreatDoorBE07
import Derived.Test.YtccebdpjdpjgnaaGreatDoorBEF
import Derived.Test.YtccebdpjdpjgnaaGreatDoorBE43
set_option linter.unusedVariables false
set_option linter.unusedSimpArgs false
namespace Go.Proofs.YtccebdpjdpjgnaaGreatDoor.D.MonzoLong
open Go.ChangeShapes Go.WideShapes Go.ChangeAt Go.RowKit Go.Proofs.YtccebdpjdpjgnaaGreatDoor.P Go.Proofs.YtccebdpjdpjgnaaGreatDoor.Q Go.Proofs.YtccebdpjdpjgnaaGreatDoorW.PrintWords
set_option linter.unusedVariables false
set_option maxRecDepth 100000
theorem met (os : Os) (args : Array Value) : laidMetH Tryz.prog L5 ((World.laidAll Tryz.prog os L5).forCall (fun _ _ => 0) ⟨#[], args, []⟩).memory := by
 rw [MakeChecks.laidMetH_plain _ _ _ (by kernel_rfl)]
 exact laidMet_laidAll _ (by kernel_rfl) (by kernel_rfl)
theorem lifted (os : Os) (started : os.Started) (H : Type) (enc : TypeId × Value → H) :
  ReturnsInHanded {} Tryz.checked os 6 .any (fun w args => (Rows.monzoLongSpec.pre enc Tryz.prog Tryz.f6 [] false w args ∧ laidMetH Tryz.prog L5 w) ∧ sizedMet enc Tryz.prog Tryz.f6 (OpenSpec.ofChange Rows.monzoLongSpec) false w args)
   (Rows.monzoLongSpec.post enc Tryz.prog Tryz.f6 false true false false) := by
 refine change_and_shaped (C := Tryz.checked) (X := fun w _ => laidMetH Tryz.prog L5 w) (fun _ _ _ hh h => h.of_heap hh) own started (by kernel_rfl) Tryz.func6 (ChangeSpec.witness_shaped (enc := enc) (C := Tryz.checked) (os := os) (X := fun w _ => laidMetH Tryz.prog L5 w) false (World.laidAll Tryz.prog os L5) #[.int .i16 0] 8 (World.laidAll_os _ _ _) (World.shaped_of_ZipB (by kernel_rfl) (by kernel_rfl)) (by kernel_rfl) (by kernel_rfl) (by kernel_rfl) (met os _)) ?_
 intro W base args ds gs before hval0 hW _ hL hsh
 have hT := tabW_of_laid hL hsh
 have hval : ∀ (j : Nat) t v, Tryz.f6.params[j]? = some t → args[j]? = some v → Value.okWide Tryz.prog W .any base t v := hval0
 have hW' := hW
 obtain ⟨p, q, hA0, hV, rfl, hfz, hnd⟩ := hW
 have hA : DataW.TrodAll enc Tryz.prog W 0 (fun _ => true) true Tryz.f6.params.toList args.toList ds p := hA0
 rw [Tryz.params6] at hA hval
 obtain ⟨v0, vs0, d0, ds0, p0, q0, hargs, rfl, rfl, h0, r0⟩ := trodAll_cons hA
 obtain ⟨rfl, rfl, rfl⟩ := trodAll_nil r0
 obtain rfl : args = #[v0] := by cases args; simp_all
 obtain ⟨rfl, rfl⟩ := trodVars_none hV
 have lt0 : ∀ x ∈ p0, x.block < W.heap.size := by obtain ⟨m, hm⟩ := h0; exact DataW.trod_lt m _ _ _ hm
 have g0 := h0
 obtain ⟨a, rfl, _, _, _⟩ := open_int Tryz.underlying59 (hval 0 59 v0 rfl rfl) h0
 clear hA0 hval0
 obtain ⟨k, hk⟩ := (long_ev a).rounds
 refine (schismalaw12_MonzoLong.calls k a true W hT hk rfl known_sure).mono fun e W' ⟨he, bel⟩ => ?_
 subst he
 exact ⟨_, rfl, _, _, _, [], _, [], hW', trodAll_mk1 (shut_bool Tryz.underlying4 _), (trodAll_cons_mk (Below.trod laidOut (by kernel_rfl) (of_decide_eq_true (by kernel_rfl)) g0 bel lt0) trodAll_mk0), rfl, bel.frame _, fun h => by cases h⟩
theorem holds : Rows.MonzoLongSaid :=
 OpenClaim.holds_of_wide (p := Tryz.pinned) (s := Rows.monzoLongSpec) (c := Rows.monzoLongRow) 6 Tryz.f6 rfl rfl rfl rfl rfl rfl rfl ⟨rfl, rfl, rfl, rfl, rfl⟩ rfl rfl rfl rfl rfl named Tryz.func6 closed inst wrap
  (fun os started H enc _ => lifted os started H enc)
end Go.Proofs.YtccebdpjdpjgnaaGreatDoor.D.MonzoLong
namespace Go.Proofs.YtccebdpjdpjgnaaGreatDoor
theorem monzoLong_card_holds : Rows.MonzoLongCardSaid :=
 Claim7.holds_tied_plain_at .later [] [.data, .data, .data, .sentinel, .sentinel] true (true, "f57e5dc9ce9f0a8485cfc4c3a0b0a03292939c15d71d60950981aa626424c6ed") true
  D.MonzoLong.holds (fun _ h => by cases h) D.MonzoLong.wft (fun _ h => by cases h) monzoLong_row_tie rfl ⟨rfl, rfl⟩ D.MonzoLong.main rfl
  (fun f fn hf hfn => by
   obtain rfl : f = 6 := Option.some.inj (D.MonzoLong.named.symm.trans hf) |>.symm
   obtain rfl : fn = Tryz.f6 := (Option.some.inj (Tryz.func6.symm.trans hfn)).symm
   exact ⟨D.MonzoLong.looks, fun j t ht => by
    rw [Tryz.params6] at ht
    have hm : t ∈ [59] := by simpa using Array.mem_of_getElem? ht
    have hall : ([59].all fun u => !Tryz.prog.wantsStandIn u) = true := by kernel_rfl
    exact (show Tryz.prog.wantsStandIn t = false by simpa using List.all_eq_true.1 hall t hm)⟩)
  D.MonzoLong.goes
end Go.Proofs.YtccebdpjdpjgnaaGreatDoor
