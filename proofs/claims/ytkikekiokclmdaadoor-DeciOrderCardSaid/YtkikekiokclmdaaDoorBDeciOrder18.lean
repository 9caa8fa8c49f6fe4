/- What the proof needs, part 18 of 19. DeciOrder answers true for every two wides; the input reads as it did. -/
import Derived.Test.YtkikekiokclmdaaDoorRows
import Derived.Test.YtkikekiokclmdaaDoorTie
import Derived.Test.YtkikekiokclmdaaDoorCards
import Derived.ProofKit
import Derived.LaidMore
import Derived.OpenShut
import Derived.Stop.Joined
import Derived.Stop.LaidErr
import Derived.Lay
import Derived.SevenTiedAt
import Derived.HandedShaped
import Derived.ShutString
import Derived.ChangeOld
import Derived.SizedLaws
import Derived.Test.YtkikekiokclmdaaDoorBDeciOrder6
import Derived.Test.YtkikekiokclmdaaDoorBDeciOrder5
import Derived.Test.YtkikekiokclmdaaDoorBDeciOrder17
import Derived.Test.YtkikekiokclmdaaDoorBDeciOrder9
set_option linter.unusedVariables false
set_option linter.unusedSimpArgs false
namespace Go.Proofs.YtkikekiokclmdaaDoor.Tied
open Go.ChangeShapes Go.WideShapes Go.ChangeAt Go.WideMaps Go.WideElems Go.RowKit Go.Proofs.YtkikekiokclmdaaDoorW.PrintWords Go.Proofs.YtkikekiokclmdaaDoor.S Go.Proofs.YtkikekiokclmdaaDoor.OpenK
theorem returns_and_shaped {H : Type} {enc : TypeId × Value → H} {a : Assume} {C : Checked} {os : Os} {f : FuncId} {fn : Func} {s : ChangeSpec} {conds : List PathCond} {apart fresh handsOn again : Bool} {X : World → Array Value → Prop}
    (hX : ∀ (w w' : World) (args : Array Value), w.heap = w'.heap → X w args → X w' args)
    (own : ownKnob C.prog.godebug = none) (started : os.Started) (noInit : C.prog.inits.idxOf? f = none) (hfn : C.prog.funcs[f]? = some fn)
    (witness : ∃ (w : World) (tape : Tape) (i : Input), w.os = os ∧ (w.forCall tape i).Shaped C.prog ∧ i.vars = [] ∧ Input.okWide C.prog (w.forCall tape i) .any w.heap.size f i ∧
      ((s.pre enc C.prog fn conds apart (w.forCall tape i).memory i.args ∧ X (w.forCall tape i).memory i.args) ∧ sizedMet enc C.prog fn (OpenSpec.ofChange s) apart (w.forCall tape i).memory i.args) ∧ a.holds C.prog (lone (Frame.enter C.prog f i.args .normal) [] (w.forCall tape i)))
    (contract : ∀ (W : World) (base : Nat) (args : Array Value) (ds gs : List (DataW H)) (before : List MemPlace),
      (∀ (j : Nat) t v, fn.params[j]? = some t → args[j]? = some v → Value.okWide C.prog W .any base t v) →
      DataW.Whole enc C.prog fn.params.toList s.vars apart W args.toList ds gs before →
      conds.all (PathCond.test C.prog ⟨fn.params.toList, ds, s.plain.varTypes C.prog, gs⟩) = true →
      (DataW.weightsEach C.prog (fn.params.toList ++ s.plain.varTypes C.prog) (ds ++ gs)).all (· ≤ reachBytes) = true → X W args → W.ShapedOpen C.prog →
      a.holds C.prog (lone (Frame.enter C.prog f args .normal) [] W) →
      Calls C.prog f args W fun e W' => ∃ v, e = .returned v ∧ s.post enc C.prog fn apart fresh handsOn again W args v W') :
    ReturnsInHanded a C os f .any (fun w args => (s.pre enc C.prog fn conds apart w args ∧ X w args) ∧ sizedMet enc C.prog fn (OpenSpec.ofChange s) apart w args) (s.post enc C.prog fn apart fresh handsOn again) := by
  refine returnsInHanded_of_calls own started noInit witness ?_
  intro w tape i _ hsh _ hok hpre hholds
  obtain ⟨_, _, _, fn', hfn', _, _, _, _, hval⟩ := hok
  have e : fn' = fn := Option.some.inj (hfn'.symm.trans hfn)
  subst e
  obtain ⟨⟨⟨ds, gs, before, hw, hc⟩, hx⟩, hz⟩ := hpre
  have hw' := DataW.Whole.of_heap (w' := w.forCall tape i) (by rfl) hw
  refine (contract (w.forCall tape i) w.heap.size i.args ds gs before hval hw' hc (hz.weights hw) (hX _ _ _ (by rfl) hx) hsh hholds).mono fun e W' ⟨v, he, hp⟩ => ?_
  subst he
  exact ChangeSpec.post_blind hp
abbrev laid1 : List (String × DataW Unit) := [("math/bits.deBruijn32tab", Rows.laid_math_bits_deBruijn32tab), ("math/bits.deBruijn64tab", Rows.laid_math_bits_deBruijn64tab), ("internal/strconv.uint64pow10", Rows.laid_internal_strconv_uint64pow10), ("unicode/utf8.acceptRanges", Rows.laid_unicode_utf8_acceptRanges), ("strconv.ErrRange", Rows.laid_strconv_ErrRange), ("strconv.ErrSyntax", Rows.laid_strconv_ErrSyntax), ("unicode/utf8.first", Rows.laid_unicode_utf8_first)]
theorem own : ownKnob Tryd.prog.godebug = none := by kernel_rfl
theorem tTab : (Tryd.prog.globals[0]?).map (·.type) = some 111 := by kernel_rfl
theorem tRng : (Tryd.prog.globals[5]?).map (·.type) = some 65 := by kernel_rfl
theorem star : "*" ++ "errors.errorString" = "*errors.errorString" := by decide
theorem rowErr (u : TypeId) (h : Tryd.prog.typeName? 3 u = some "*errors.errorString") : u = 133 :=
  typeName_ptr_named (nm := "errors.errorString") (by rw [star]; kernel_rfl) (by kernel_rfl) (by decide) u (by rw [star]; exact h)
theorem kindsMet (os : Os) (args : Array Value) : laidMetH Tryd.prog laid1 ((World.laidAll Tryd.prog os laid1).forCall (fun _ _ => 0) ⟨#[], args, []⟩).memory := by
  rw [MakeChecks.laidMetH_plain _ _ _ (by kernel_rfl)]
  exact laidMet_laidAll _ (by kernel_rfl) (by kernel_rfl)
theorem gw_of {W : World} (hL : laidMetH Tryd.prog laid1 W) (hsh : W.ShapedOpen Tryd.prog) : GW W := by
  rw [MakeChecks.laidMetH_plain _ _ _ (by kernel_rfl)] at hL
  refine ⟨Lib.tabIs_of_head (rest := laid1.drop 3) gTab tTab Tryd.underlying111 Tryd.underlying25 (by kernel_rfl) (by kernel_rfl) hL.tail.tail, ?_⟩
  obtain ⟨a0, s0, hv0, _⟩ := laid_sentinel hL.tail.tail.tail.tail gRng tRng Tryd.underlying65 rowErr Tryd.underlying133 Tryd.underlying135 rfl rfl Tryd.underlying9 (by kernel_rfl) (by kernel_rfl)
  exact ⟨_, _, hv0⟩
set_option maxRecDepth 100000
theorem wf_u64 {n : Int} (h : (Lit.int .u64 n).wf = true) : 0 ≤ n ∧ n < 18446744073709551616 := by
  simp only [Lit.wf, Bool.and_eq_true, decide_eq_true_eq] at h
  have e1 : IntKind.u64.min = 0 := by decide
  have e2 : IntKind.u64.max = 18446744073709551615 := by decide
  rw [e1, e2] at h
  omega
abbrev wf64 (n : Int) : Prop := (Lit.int .i64 n).wf = true
abbrev wfu64 (n : Int) : Prop := (Lit.int .u64 n).wf = true
theorem opens_wide0 : Opens Tryd.prog 27 (Kd.pair (Kd.int .i64) (Kd.int .u64)) (fun p => wf64 p.1 ∧ wfu64 p.2) := by
  refine opens_struct Tryd.underlying27 (by kernel_rfl) ?_
  change OpensEach _ [_, _] _ _ _
  refine each_cons (opens_int Tryd.underlying2) rfl (by kernel_rfl) ?_
  exact each_one (opens_int Tryd.underlying25) rfl (by kernel_rfl)
theorem opens_wide : Opens Tryd.prog 27 k27 (fun x => Wd x.f0 x.f1) :=
  Opens.mono (opens_iso opens_wide0 (fun x : S27 => (x.f0, x.f1)) (fun p => ⟨p.1, p.2⟩) (fun _ => rfl)) (fun v h => by
    have a := wf_i64 h.1
    have b := wf_u64 h.2
    simp only at a b
    exact ⟨a.1, by omega, b.1, b.2⟩)
section
variable {H : Type} {enc : TypeId × Value → H} {W : World} {v : Value} {d : DataW H} {ps : List MemPlace} {base : Nat}
theorem open_wide (hval : Value.okWide Tryd.prog W .any base 27 v) (h : DataW.Trod enc Tryd.prog W 0 (fun _ => true) true 27 v d ps) (hz : ∀ n ∈ d.weights Tryd.prog 27, n ≤ 140737488351232) :
    ∃ a b, v = .agg #[.int .i64 a, .int .u64 b] ∧ Wd a b ∧ (∀ x ∈ ps, x.block < W.heap.size) := by
  obtain ⟨x, hK, hB, hlt⟩ := opens_wide.arg h hz
  obtain ⟨cs, rfl, hcs⟩ := okWide_struct Tryd.underlying27 hval
  have e0 := k27_open hK
  refine ⟨x.f0, x.f1, ?_, hB, hlt⟩
  have e1 : cs.toList = [.int .i64 x.f0, .int .u64 x.f1] := by
    have : (Value.agg cs).cells = cs := by simp [Value.cells]
    rw [this] at e0
    exact e0
  obtain ⟨l⟩ := cs
  simp only at e1
  rw [e1]
end
end Go.Proofs.YtkikekiokclmdaaDoor.Tied
