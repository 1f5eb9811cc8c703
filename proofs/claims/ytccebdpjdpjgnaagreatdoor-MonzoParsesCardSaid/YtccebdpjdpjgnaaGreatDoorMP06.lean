/-
What a row's condition gives the walks, and how its arguments open.
-/
import Derived.Test.YtccebdpjdpjgnaaGreatDoorRows
import Derived.WalkKit
import Derived.ProofKit
import Derived.LaidMore
import Derived.OpenShut
import Derived.ShutString
import Derived.ChangeOld
import Derived.Below
import Derived.SizedLaws
import Derived.Lay
import Derived.LaidLaws
import Derived.MakeChecks
import Derived.Shelf.Vars
import Derived.Carry
import Derived.Test.YtccebdpjdpjgnaaGreatDoorMP05
set_option linter.unusedVariables false
set_option linter.unusedSimpArgs false
namespace Go.Proofs.YtccebdpjdpjgnaaGreatDoor.D
open Go.ChangeShapes Go.WideShapes Go.ChangeAt Go.RowKit Go.Proofs.YtccebdpjdpjgnaaGreatDoorW.PrintWords
open Go.ChangeMaps (open_string shut_string)
set_option linter.unusedVariables false
set_option maxRecDepth 100000
theorem own : ownKnob Tryz.prog.godebug = none := by kernel_rfl
theorem laidOut : laidOutB Tryz.prog = true := by kernel_rfl
theorem change_and_shaped {H : Type} {enc : TypeId × Value → H} {a : Assume} {C : Checked} {os : Os} {f : FuncId} {fn : Func} {s : ChangeSpec} {conds : List PathCond} {apart fresh handsOn again : Bool} {X : World → Array Value → Prop}
  (hX : ∀ (w w' : World) (args : Array Value), w.heap = w'.heap → X w args → X w' args)
  (own : ownKnob C.prog.godebug = none) (started : os.Started) (noInit : C.prog.inits.idxOf? f = none) (hfn : C.prog.funcs[f]? = some fn)
  (witness : ∃ (w : World) (tape : Tape) (i : Input), w.os = os ∧ (w.forCall tape i).Shaped C.prog ∧ i.vars = [] ∧ Input.okWide C.prog (w.forCall tape i) .any w.heap.size f i ∧
   ((s.pre enc C.prog fn conds apart (w.forCall tape i).memory i.args ∧ X (w.forCall tape i).memory i.args) ∧ sizedMet enc C.prog fn (OpenSpec.ofChange s) apart (w.forCall tape i).memory i.args) ∧ a.holds C.prog (lone (Frame.enter C.prog f i.args .normal) [] (w.forCall tape i)))
  (contract : ∀ (W : World) (base : Nat) (args : Array Value) (ds gs : List (DataW H)) (before : List MemPlace),
   (∀ (j : Nat) t v, fn.params[j]? = some t → args[j]? = some v → Value.okWide C.prog W .any base t v) →
   DataW.Whole enc C.prog fn.params.toList s.vars apart W args.toList ds gs before →
   (DataW.weightsEach C.prog (fn.params.toList ++ s.plain.varTypes C.prog) (ds ++ gs)).all (· ≤ reachBytes) = true → X W args → W.ShapedOpen C.prog →
   Calls C.prog f args W fun e W' => ∃ v, e = .returned v ∧ s.post enc C.prog fn apart fresh handsOn again W args v W') :
  ReturnsInHanded a C os f .any (fun w args => (s.pre enc C.prog fn conds apart w args ∧ X w args) ∧ sizedMet enc C.prog fn (OpenSpec.ofChange s) apart w args) (s.post enc C.prog fn apart fresh handsOn again) := by
 refine returnsInHanded_of_calls own started noInit witness ?_
 intro w tape i _ hsh _ hok hpre hholds
 obtain ⟨_, _, _, fn', hfn', _, _, _, _, hval⟩ := hok
 have e : fn' = fn := Option.some.inj (hfn'.symm.trans hfn)
 subst e
 obtain ⟨⟨⟨ds, gs, before, hw, hc⟩, hx⟩, hz⟩ := hpre
 have hw' := DataW.Whole.of_heap (w' := w.forCall tape i) (by rfl) hw
 refine (contract (w.forCall tape i) w.heap.size i.args ds gs before hval hw' (hz.weights hw) (hX _ _ _ (by rfl) hx) hsh).mono fun e W' ⟨v, he, hp⟩ => ?_
 subst he
 exact ChangeSpec.post_blind hp
theorem g_pow : Tryz.prog.globalNamed "internal/strconv.uint64pow10" = some 3 := by kernel_rfl
theorem g_rng : Tryz.prog.globalNamed "strconv.ErrRange" = some 1 := by kernel_rfl
theorem g_syn : Tryz.prog.globalNamed "strconv.ErrSyntax" = some 0 := by kernel_rfl
theorem t_pow : (Tryz.prog.globals[3]?).map (·.type) = some 290 := by kernel_rfl
theorem t_rng : (Tryz.prog.globals[1]?).map (·.type) = some 162 := by kernel_rfl
theorem t_syn : (Tryz.prog.globals[0]?).map (·.type) = some 162 := by kernel_rfl
theorem arr_eq {cs : Array Value} {v : Value} (h : cs.toList = [v]) : cs = #[v] := by
 cases cs; simp only at h; rw [h]
theorem open_cells {P : Program} {w : World} {r : Reach} {base : Nat} {t : TypeId} {v : Value} {ts : List TypeId} (ht : (∃ fs, P.underlying t = some (.struct fs)) ∨ ∃ n e, P.underlying t = some (.array n e)) (hct : P.cellTypes P.depth t = some ts) (hc : P.cellsOf t = ts.length)
  (h : Value.okWide P w r base t v) : ∃ cs : Array Value, v = .agg cs ∧ cs.size = ts.length ∧ ∀ (i : Nat) u, ts[i]? = some u → ∃ x, cs[i]? = some x ∧ Cell.okWide P w r base u x := by
 have h' : ∃ cs : Array Value, v = .agg cs ∧ cs.size = P.cellsOf t ∧ Row.okWide P w r base t cs := by
  unfold Value.okWide at h
  rcases ht with ⟨fs, e⟩ | ⟨n, el, e⟩ <;> rw [e] at h <;> exact h
 obtain ⟨cs, rfl, hs, ts', hts', _, hall⟩ := h'
 rw [hct] at hts'
 obtain rfl := Option.some.inj hts'
 refine ⟨cs, rfl, hs.trans hc, fun i u hu => ?_⟩
 have hi : i < ts.length := (List.getElem?_eq_some_iff.1 hu).1
 have hic : i < cs.size := by omega
 obtain ⟨u', hu', hok⟩ := hall i cs[i] (Array.getElem?_eq_getElem hic)
 rw [Nat.mod_eq_of_lt hi, hu] at hu'
 obtain rfl := Option.some.inj hu'
 exact ⟨cs[i], Array.getElem?_eq_getElem hic, hok⟩
theorem cell_int {P : Program} {w : World} {r : Reach} {base : Nat} {t : TypeId} {x : Value} {k : IntKind} (ht : P.underlying t = some (.int k)) (h : Cell.okWide P w r base t x) : ∃ n, x = .int k n ∧ k.has n := by
 unfold Cell.okWide Cell.ok at h
 rw [ht] at h
 cases x <;> simp at h
 obtain ⟨rfl, h⟩ := h
 exact ⟨_, rfl, h⟩
theorem open_plan {w : World} {base : Nat} {v : Value} (h : Value.okWide Tryz.prog w .any base 50 v) : ∃ a b c d e : Int, v = .agg #[.int .u8 a, .int .i8 b, .int .i8 c, .int .i8 d, .int .i8 e] ∧ 0 ≤ a ∧ a ≤ 255 := by
 obtain ⟨cs, rfl, hs, hall⟩ := open_cells (ts := [5, 47, 47, 47, 47]) (.inl ⟨_, Tryz.underlying50⟩) (by kernel_rfl) (by kernel_rfl) h
 obtain ⟨x0, h0, k0⟩ := hall 0 5 rfl
 obtain ⟨x1, h1, k1⟩ := hall 1 47 rfl
 obtain ⟨x2, h2, k2⟩ := hall 2 47 rfl
 obtain ⟨x3, h3, k3⟩ := hall 3 47 rfl
 obtain ⟨x4, h4, k4⟩ := hall 4 47 rfl
 obtain ⟨a, rfl, ha⟩ := cell_int Tryz.underlying5 k0
 obtain ⟨b, rfl, _⟩ := cell_int Tryz.underlying47 k1
 obtain ⟨c, rfl, _⟩ := cell_int Tryz.underlying47 k2
 obtain ⟨d, rfl, _⟩ := cell_int Tryz.underlying47 k3
 obtain ⟨e, rfl, _⟩ := cell_int Tryz.underlying47 k4
 refine ⟨a, b, c, d, e, ?_, ?_, ?_⟩
 ·congr 1
  apply Array.ext_getElem?
  intro i
  rcases (show i = 0 ∨ i = 1 ∨ i = 2 ∨ i = 3 ∨ i = 4 ∨ 5 ≤ i by omega) with rfl | rfl | rfl | rfl | rfl | hi
  ·exact h0
  ·exact h1
  ·exact h2
  ·exact h3
  ·exact h4
  ·rw [Array.getElem?_eq_none (by rw [hs]; exact hi), Array.getElem?_eq_none (by exact hi)]
 ·exact ha.1
 ·exact ha.2
end Go.Proofs.YtccebdpjdpjgnaaGreatDoor.D
