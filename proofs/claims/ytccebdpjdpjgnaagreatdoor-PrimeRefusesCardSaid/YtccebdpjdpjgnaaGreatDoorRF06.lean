/-
What a row's condition gives the walks, and how its arguments open.
-/
import Derived.Test.YtccebdpjdpjgnaaGreatDoorRows
import Derived.WalkKit
import Derived.ProofKit
import Derived.LaidMore
import Derived.OpenShut
import Derived.ShutString
import Derived.ChangeOld
import Derived.Below
import Derived.SizedLaws
import Derived.Lay
import Derived.LaidLaws
import Derived.MakeChecks
import Derived.Shelf.Vars
import Derived.Carry
import Derived.Test.YtccebdpjdpjgnaaGreatDoorRF05
set_option linter.unusedVariables false
set_option linter.unusedSimpArgs false
namespace Go.Proofs.YtccebdpjdpjgnaaGreatDoor.D
open Go.ChangeShapes Go.WideShapes Go.ChangeAt Go.RowKit Go.Proofs.YtccebdpjdpjgnaaGreatDoorW.PrintWords
open Go.ChangeMaps (open_string shut_string)
set_option linter.unusedVariables false
set_option maxRecDepth 100000
theorem own : ownKnob Tryz.prog.godebug = none := by kernel_rfl
theorem laidOut : laidOutB Tryz.prog = true := by kernel_rfl
theorem change_and_shaped {H : Type} {enc : TypeId × Value → H} {a : Assume} {C : Checked} {os : Os} {f : FuncId} {fn : Func} {s : ChangeSpec} {conds : List PathCond} {apart fresh handsOn again : Bool} {X : World → Array Value → Prop}
  (hX : ∀ (w w' : World) (args : Array Value), w.heap = w'.heap → X w args → X w' args)
  (own : ownKnob C.prog.godebug = none) (started : os.Started) (noInit : C.prog.inits.idxOf? f = none) (hfn : C.prog.funcs[f]? = some fn)
  (witness : ∃ (w : World) (tape : Tape) (i : Input), w.os = os ∧ (w.forCall tape i).Shaped C.prog ∧ i.vars = [] ∧ Input.okWide C.prog (w.forCall tape i) .any w.heap.size f i ∧
   ((s.pre enc C.prog fn conds apart (w.forCall tape i).memory i.args ∧ X (w.forCall tape i).memory i.args) ∧ sizedMet enc C.prog fn (OpenSpec.ofChange s) apart (w.forCall tape i).memory i.args) ∧ a.holds C.prog (lone (Frame.enter C.prog f i.args .normal) [] (w.forCall tape i)))
  (contract : ∀ (W : World) (base : Nat) (args : Array Value) (ds gs : List (DataW H)) (before : List MemPlace),
   (∀ (j : Nat) t v, fn.params[j]? = some t → args[j]? = some v → Value.okWide C.prog W .any base t v) →
   DataW.Whole enc C.prog fn.params.toList s.vars apart W args.toList ds gs before →
   (DataW.weightsEach C.prog (fn.params.toList ++ s.plain.varTypes C.prog) (ds ++ gs)).all (· ≤ reachBytes) = true → X W args → W.ShapedOpen C.prog →
   Calls C.prog f args W fun e W' => ∃ v, e = .returned v ∧ s.post enc C.prog fn apart fresh handsOn again W args v W') :
  ReturnsInHanded a C os f .any (fun w args => (s.pre enc C.prog fn conds apart w args ∧ X w args) ∧ sizedMet enc C.prog fn (OpenSpec.ofChange s) apart w args) (s.post enc C.prog fn apart fresh handsOn again) := by
 refine returnsInHanded_of_calls own started noInit witness ?_
 intro w tape i _ hsh _ hok hpre hholds
 obtain ⟨_, _, _, fn', hfn', _, _, _, _, hval⟩ := hok
 have e : fn' = fn := Option.some.inj (hfn'.symm.trans hfn)
 subst e
 obtain ⟨⟨⟨ds, gs, before, hw, hc⟩, hx⟩, hz⟩ := hpre
 have hw' := DataW.Whole.of_heap (w' := w.forCall tape i) (by rfl) hw
 refine (contract (w.forCall tape i) w.heap.size i.args ds gs before hval hw' (hz.weights hw) (hX _ _ _ (by rfl) hx) hsh).mono fun e W' ⟨v, he, hp⟩ => ?_
 subst he
 exact ChangeSpec.post_blind hp
theorem g_pow : Tryz.prog.globalNamed "internal/strconv.uint64pow10" = some 3 := by kernel_rfl
theorem g_rng : Tryz.prog.globalNamed "strconv.ErrRange" = some 1 := by kernel_rfl
theorem g_syn : Tryz.prog.globalNamed "strconv.ErrSyntax" = some 0 := by kernel_rfl
theorem t_pow : (Tryz.prog.globals[3]?).map (·.type) = some 290 := by kernel_rfl
theorem t_rng : (Tryz.prog.globals[1]?).map (·.type) = some 162 := by kernel_rfl
theorem t_syn : (Tryz.prog.globals[0]?).map (·.type) = some 162 := by kernel_rfl
theorem arr_eq {cs : Array Value} {v : Value} (h : cs.toList = [v]) : cs = #[v] := by
 cases cs; simp only at h; rw [h]
theorem open_row {H : Type} {enc : TypeId × Value → H} {w : World} {r : Reach} {base : Nat} {t : TypeId} {v : Value} {d : DataW H} {ps : List MemPlace} (ht : Tryz.prog.underlying t = some (.slice 3)) (hv : Value.okWide Tryz.prog w r base t v)
  (h : DataW.Trod enc Tryz.prog w 0 (fun _ => true) true t v d ps) : ∃ (A : Option Addr) (l c : Nat) (zs : List Int), v = .slice A l c ∧ l = zs.length ∧ Kd.C (Kd.int .i64) w A zs.length zs ∧ zs.length ≤ c := by
 obtain ⟨a, len, cap, rfl⟩ := okWide_slice ht hv
 obtain ⟨fuel, hf⟩ := h
 rcases open_ints ht Tryz.underlying3 (by kernel_rfl) hf with ⟨hcs, _⟩ | ⟨x, l, c, zs, hcs, _, hl, hm, hz, _, hcell, hwz⟩
 ·simp [Value.cells] at hcs
  obtain ⟨rfl, rfl, rfl⟩ := hcs
  exact ⟨none, 0, 0, [], rfl, rfl, Kd.C_nil _ _, Nat.le_refl _⟩
 ·simp [Value.cells] at hcs
  obtain ⟨rfl, rfl, rfl⟩ := hcs
  simp only [if_true] at hz
  have hlen : (zs.take len).length = len := by rw [List.length_take]; omega
  refine ⟨some x, len, cap, zs.take len, rfl, hlen.symm, ⟨rfl, by rw [hlen]; unfold maxLen at hm; omega, fun h0 => ⟨x, rfl, fun j p hj => ⟨[.int .i64 p], rfl, rfl, fun i u hu => ?_⟩⟩⟩, by rw [hlen]; exact hl⟩
  have hi0 : i = 0 := by
   have := (List.getElem?_eq_some_iff.1 hu).1
   simp at this; exact this
  subst hi0
  obtain rfl : Value.int .i64 p = u := by simpa using hu
  have hj1 : j < len := by have := (List.getElem?_eq_some_iff.1 hj).1; rw [hlen] at this; exact this
  have hj2 : zs.getD j 0 = p := by
   rw [List.getElem?_take_of_lt hj1] at hj
   rw [List.getD_eq_getElem?_getD, hj]; rfl
  have e : (Kd.int .i64).sz = 1 := rfl
  rw [e, Nat.mul_one, Nat.add_zero, hcell j (by omega), hj2]
end Go.Proofs.YtccebdpjdpjgnaaGreatDoor.D
