/-
The row and the card of PrimeRefuses.
-/
import Derived.Test.YtccebdpjdpjgnaaGreatDoorTie
import Derived.Test.YtccebdpjdpjgnaaGreatDoorCards
import Derived.SevenTiedAt
import Derived.Test.YtccebdpjdpjgnaaGreatDoorRFF
import Derived.Test.YtccebdpjdpjgnaaGreatDoorRF38
set_option linter.unusedVariables false
set_option linter.unusedSimpArgs false
namespace Go.Proofs.YtccebdpjdpjgnaaGreatDoor.D.PrimeRefuses
open Go.ChangeShapes Go.WideShapes Go.ChangeAt Go.RowKit Go.Proofs.YtccebdpjdpjgnaaGreatDoor.P Go.Proofs.YtccebdpjdpjgnaaGreatDoor.Q Go.Proofs.YtccebdpjdpjgnaaGreatDoorW.PrintWords
set_option linter.unusedVariables false
set_option maxRecDepth 100000
theorem met (os : Os) (args : Array Value) : laidMetH Tryz.prog L7 ((World.laidAll Tryz.prog os L7).forCall (fun _ _ => 0) ⟨#[], args, []⟩).memory := by
 rw [MakeChecks.laidMetH_plain _ _ _ (by kernel_rfl)]
 exact laidMet_laidAll _ (by kernel_rfl) (by kernel_rfl)
theorem lifted (os : Os) (started : os.Started) (H : Type) (enc : TypeId × Value → H) :
  ReturnsInHanded {} Tryz.checked os 19 .any (fun w args => (Rows.primeRefusesSpec.pre enc Tryz.prog Tryz.f19 [] false w args ∧ laidMetH Tryz.prog L7 w) ∧ sizedMet enc Tryz.prog Tryz.f19 (OpenSpec.ofChange Rows.primeRefusesSpec) false w args)
   (Rows.primeRefusesSpec.post enc Tryz.prog Tryz.f19 false true false false) := by
 refine change_and_shaped (C := Tryz.checked) (X := fun w _ => laidMetH Tryz.prog L7 w) (fun _ _ _ hh h => h.of_heap hh) own started (by kernel_rfl) Tryz.func19 (ChangeSpec.witness_shaped (enc := enc) (C := Tryz.checked) (os := os) (X := fun w _ => laidMetH Tryz.prog L7 w) false (World.laidAll Tryz.prog os L7) #[.slice none 0 0, .slice none 0 0] 8 (World.laidAll_os _ _ _) (World.shaped_of_ZipB (by kernel_rfl) (by kernel_rfl)) (by kernel_rfl) (by kernel_rfl) (by kernel_rfl) (met os _)) ?_
 intro W base args ds gs before hval0 hW _ hL hsh
 have hT := tabW_of_laid7 hL hsh
 have hval : ∀ (j : Nat) t v, Tryz.f19.params[j]? = some t → args[j]? = some v → Value.okWide Tryz.prog W .any base t v := hval0
 have hW' := hW
 obtain ⟨p, q, hA0, hV, rfl, hfz, hnd⟩ := hW
 have hA : DataW.TrodAll enc Tryz.prog W 0 (fun _ => true) true Tryz.f19.params.toList args.toList ds p := hA0
 rw [Tryz.params19] at hA hval
 obtain ⟨v0, vs0, d0, ds0, p0, q0, hargs, rfl, rfl, h0, r0⟩ := trodAll_cons hA
 obtain ⟨v1, vs1, d1, ds1, p1, q1, rfl, rfl, rfl, h1, r1⟩ := trodAll_cons r0
 obtain ⟨rfl, rfl, rfl⟩ := trodAll_nil r1
 obtain rfl : args = #[v0, v1] := by cases args; simp_all
 obtain ⟨rfl, rfl⟩ := trodVars_none hV
 have lt0 : ∀ x ∈ p0, x.block < W.heap.size := by obtain ⟨m, hm⟩ := h0; exact DataW.trod_lt m _ _ _ hm
 have lt1 : ∀ x ∈ p1, x.block < W.heap.size := by obtain ⟨m, hm⟩ := h1; exact DataW.trod_lt m _ _ _ hm
 have g0 := h0
 have g1 := h1
 obtain ⟨A0, l0, c0, z0, rfl, rfl, k0, e0⟩ := open_row Tryz.underlying23 (hval 0 23 v0 rfl rfl) h0
 obtain ⟨A1, l1, c1, z1, rfl, rfl, k1, e1⟩ := open_row Tryz.underlying23 (hval 1 23 v1 rfl rfl) h1
 clear hA0 hval0
 obtain ⟨k, hk⟩ := (refuses_ev z0 z1).rounds
 refine (schismalaw11_PrimeRefuses.calls k A0 c0 z0 A1 c1 z1 true W hT k0 e0 k1 e1 hk rfl known11_sure).mono fun e W' ⟨he, bel⟩ => ?_
 subst he
 exact ⟨_, rfl, _, _, _, [], _, [], hW', trodAll_mk1 (shut_bool Tryz.underlying4 _), (trodAll_cons_mk (Below.trod laidOut (by kernel_rfl) (of_decide_eq_true (by kernel_rfl)) g0 bel lt0) (trodAll_cons_mk (Below.trod laidOut (by kernel_rfl) (of_decide_eq_true (by kernel_rfl)) g1 bel lt1) trodAll_mk0)), rfl, bel.frame _, fun h => by cases h⟩
theorem holds : Rows.PrimeRefusesSaid :=
 OpenClaim.holds_of_wide (p := Tryz.pinned) (s := Rows.primeRefusesSpec) (c := Rows.primeRefusesRow) 19 Tryz.f19 rfl rfl rfl rfl rfl rfl rfl ⟨rfl, rfl, rfl, rfl, rfl⟩ rfl rfl rfl rfl rfl named Tryz.func19 closed inst wrap
  (fun os started H enc _ => lifted os started H enc)
end Go.Proofs.YtccebdpjdpjgnaaGreatDoor.D.PrimeRefuses
namespace Go.Proofs.YtccebdpjdpjgnaaGreatDoor
theorem primeRefuses_card_holds : Rows.PrimeRefusesCardSaid :=
 Claim7.holds_tied_plain_at .later [] [.data, .data, .data, .data, .sentinel, .sentinel, .pinned] true (true, "f57e5dc9ce9f0a8485cfc4c3a0b0a03292939c15d71d60950981aa626424c6ed") true
  D.PrimeRefuses.holds (fun _ h => by cases h) D.PrimeRefuses.wft (fun _ h => by cases h) primeRefuses_row_tie rfl ⟨rfl, rfl⟩ D.PrimeRefuses.main rfl
  (fun f fn hf hfn => by
   obtain rfl : f = 19 := Option.some.inj (D.PrimeRefuses.named.symm.trans hf) |>.symm
   obtain rfl : fn = Tryz.f19 := (Option.some.inj (Tryz.func19.symm.trans hfn)).symm
   exact ⟨D.PrimeRefuses.looks, fun j t ht => by
    rw [Tryz.params19] at ht
    have hm : t ∈ [23, 23] := by simpa using Array.mem_of_getElem? ht
    have hall : ([23, 23].all fun u => !Tryz.prog.wantsStandIn u) = true := by kernel_rfl
    exact (show Tryz.prog.wantsStandIn t = false by simpa using List.all_eq_true.1 hall t hm)⟩)
  D.PrimeRefuses.goes
end Go.Proofs.YtccebdpjdpjgnaaGreatDoor
