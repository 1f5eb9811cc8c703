/-
The row and the card of MonzoErrors.
-/
import Derived.Test.YtccebdpjdpjgnaaGreatDoorTie
import Derived.Test.YtccebdpjdpjgnaaGreatDoorCards
import Derived.SevenTiedAt
import Derived.Test.YtccebdpjdpjgnaaGreatDoorER07
import Derived.Test.YtccebdpjdpjgnaaGreatDoorERF
import Derived.Test.YtccebdpjdpjgnaaGreatDoorER41
set_option linter.unusedVariables false
set_option linter.unusedSimpArgs false
namespace Go.Proofs.YtccebdpjdpjgnaaGreatDoor.D.MonzoErrors
open Go.ChangeShapes Go.WideShapes Go.ChangeAt Go.RowKit Go.Proofs.YtccebdpjdpjgnaaGreatDoor.P Go.Proofs.YtccebdpjdpjgnaaGreatDoor.Q Go.Proofs.YtccebdpjdpjgnaaGreatDoorW.PrintWords
set_option linter.unusedVariables false
set_option maxRecDepth 100000
theorem met (os : Os) (args : Array Value) : laidMetH Tryz.prog L5 ((World.laidAll Tryz.prog os L5).forCall (fun _ _ => 0) ⟨#[], args, []⟩).memory := by
 rw [MakeChecks.laidMetH_plain _ _ _ (by kernel_rfl)]
 exact laidMet_laidAll _ (by kernel_rfl) (by kernel_rfl)
theorem lifted (os : Os) (started : os.Started) (H : Type) (enc : TypeId × Value → H) :
  ReturnsInHanded {} Tryz.checked os 10 .any (fun w args => (Rows.monzoErrorsSpec.pre enc Tryz.prog Tryz.f10 [] false w args ∧ laidMetH Tryz.prog L5 w) ∧ sizedMet enc Tryz.prog Tryz.f10 (OpenSpec.ofChange Rows.monzoErrorsSpec) false w args)
   (Rows.monzoErrorsSpec.post enc Tryz.prog Tryz.f10 false true false false) := by
 refine change_and_shaped (C := Tryz.checked) (X := fun w _ => laidMetH Tryz.prog L5 w) (fun _ _ _ hh h => h.of_heap hh) own started (by kernel_rfl) Tryz.func10 (ChangeSpec.witness_shaped (enc := enc) (C := Tryz.checked) (os := os) (X := fun w _ => laidMetH Tryz.prog L5 w) false (World.laidAll Tryz.prog os L5) #[.slice none 0 0, .slice none 0 0, .slice none 0 0] 8 (World.laidAll_os _ _ _) (World.shaped_of_ZipB (by kernel_rfl) (by kernel_rfl)) (by kernel_rfl) (by kernel_rfl) (by kernel_rfl) (met os _)) ?_
 intro W base args ds gs before hval0 hW _ hL hsh
 have hT := tabW_of_laid hL hsh
 have hval : ∀ (j : Nat) t v, Tryz.f10.params[j]? = some t → args[j]? = some v → Value.okWide Tryz.prog W .any base t v := hval0
 have hW' := hW
 obtain ⟨p, q, hA0, hV, rfl, hfz, hnd⟩ := hW
 have hA : DataW.TrodAll enc Tryz.prog W 0 (fun _ => true) true Tryz.f10.params.toList args.toList ds p := hA0
 rw [Tryz.params10] at hA hval
 obtain ⟨v0, vs0, d0, ds0, p0, q0, hargs, rfl, rfl, h0, r0⟩ := trodAll_cons hA
 obtain ⟨v1, vs1, d1, ds1, p1, q1, rfl, rfl, rfl, h1, r1⟩ := trodAll_cons r0
 obtain ⟨v2, vs2, d2, ds2, p2, q2, rfl, rfl, rfl, h2, r2⟩ := trodAll_cons r1
 obtain ⟨rfl, rfl, rfl⟩ := trodAll_nil r2
 obtain rfl : args = #[v0, v1, v2] := by cases args; simp_all
 obtain ⟨rfl, rfl⟩ := trodVars_none hV
 have lt0 : ∀ x ∈ p0, x.block < W.heap.size := by obtain ⟨m, hm⟩ := h0; exact DataW.trod_lt m _ _ _ hm
 have lt1 : ∀ x ∈ p1, x.block < W.heap.size := by obtain ⟨m, hm⟩ := h1; exact DataW.trod_lt m _ _ _ hm
 have lt2 : ∀ x ∈ p2, x.block < W.heap.size := by obtain ⟨m, hm⟩ := h2; exact DataW.trod_lt m _ _ _ hm
 have g0 := h0
 have g1 := h1
 have g2 := h2
 obtain ⟨A0, l0, c0, z0, rfl, rfl, k0, e0⟩ := open_row Tryz.underlying23 (hval 0 23 v0 rfl rfl) h0
 obtain ⟨A1, l1, c1, z1, rfl, rfl, k1, e1⟩ := open_row Tryz.underlying24 (hval 1 24 v1 rfl rfl) h1
 obtain ⟨A2, l2, c2, z2, rfl, rfl, k2, e2⟩ := open_row Tryz.underlying24 (hval 2 24 v2 rfl rfl) h2
 clear hA0 hval0
 obtain ⟨k, hk⟩ := (errors_ev z0 z1 z2).rounds
 refine (schismalaw12_MonzoErrors.calls k A0 c0 z0 A1 c1 z1 A2 c2 z2 true W hT k0 e0 k1 e1 k2 e2 hk rfl known_sure).mono fun e W' ⟨he, bel⟩ => ?_
 subst he
 exact ⟨_, rfl, _, _, _, [], _, [], hW', trodAll_mk1 (shut_bool Tryz.underlying4 _), (trodAll_cons_mk (Below.trod laidOut (by kernel_rfl) (of_decide_eq_true (by kernel_rfl)) g0 bel lt0) (trodAll_cons_mk (Below.trod laidOut (by kernel_rfl) (of_decide_eq_true (by kernel_rfl)) g1 bel lt1) (trodAll_cons_mk (Below.trod laidOut (by kernel_rfl) (of_decide_eq_true (by kernel_rfl)) g2 bel lt2) trodAll_mk0))), rfl, bel.frame _, fun h => by cases h⟩
theorem holds : Rows.MonzoErrorsSaid :=
 OpenClaim.holds_of_wide (p := Tryz.pinned) (s := Rows.monzoErrorsSpec) (c := Rows.monzoErrorsRow) 10 Tryz.f10 rfl rfl rfl rfl rfl rfl rfl ⟨rfl, rfl, rfl, rfl, rfl⟩ rfl rfl rfl rfl rfl named Tryz.func10 closed inst wrap
  (fun os started H enc _ => lifted os started H enc)
end Go.Proofs.YtccebdpjdpjgnaaGreatDoor.D.MonzoErrors
namespace Go.Proofs.YtccebdpjdpjgnaaGreatDoor
theorem monzoErrors_card_holds : Rows.MonzoErrorsCardSaid :=
 Claim7.holds_tied_plain_at .later [] [.data, .data, .data, .sentinel, .sentinel] true (true, "f57e5dc9ce9f0a8485cfc4c3a0b0a03292939c15d71d60950981aa626424c6ed") true
  D.MonzoErrors.holds (fun _ h => by cases h) D.MonzoErrors.wft (fun _ h => by cases h) monzoErrors_row_tie rfl ⟨rfl, rfl⟩ D.MonzoErrors.main rfl
  (fun f fn hf hfn => by
   obtain rfl : f = 10 := Option.some.inj (D.MonzoErrors.named.symm.trans hf) |>.symm
   obtain rfl : fn = Tryz.f10 := (Option.some.inj (Tryz.func10.symm.trans hfn)).symm
   exact ⟨D.MonzoErrors.looks, fun j t ht => by
    rw [Tryz.params10] at ht
    have hm : t ∈ [23, 24, 24] := by simpa using Array.mem_of_getElem? ht
    have hall : ([23, 24, 24].all fun u => !Tryz.prog.wantsStandIn u) = true := by kernel_rfl
    exact (show Tryz.prog.wantsStandIn t = false by simpa using List.all_eq_true.1 hall t hm)⟩)
  D.MonzoErrors.goes
end Go.Proofs.YtccebdpjdpjgnaaGreatDoor
