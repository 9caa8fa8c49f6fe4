/- What the proof needs, part 17 of 18. DeciMoney answers true for every list of numbers and every list of strings; the input reads as it did. -/
import Derived.Test.YtkikekiokclmdaaGreatDoorRows
import Derived.Test.YtkikekiokclmdaaGreatDoorTie
import Derived.Test.YtkikekiokclmdaaGreatDoorCards
import Derived.ProofKit
import Derived.LaidMore
import Derived.OpenShut
import Derived.Stop.Joined
import Derived.Stop.LaidErr
import Derived.Lay
import Derived.SevenTiedAt
import Derived.HandedShaped
import Derived.ShutString
import Derived.ChangeOld
import Derived.SizedLaws
import Derived.Test.YtkikekiokclmdaaGreatDoorBDeciMoney6
import Derived.Test.YtkikekiokclmdaaGreatDoorBDeciMoney5
import Derived.Test.YtkikekiokclmdaaGreatDoorBDeciMoney16
import Derived.Test.YtkikekiokclmdaaGreatDoorBDeciMoney9
set_option linter.unusedVariables false
set_option linter.unusedSimpArgs false
namespace Go.Proofs.YtkikekiokclmdaaGreatDoor.Tied
open Go.ChangeShapes Go.WideShapes Go.ChangeAt Go.WideMaps Go.WideElems Go.RowKit Go.Proofs.YtkikekiokclmdaaGreatDoorW.PrintWords Go.Proofs.YtkikekiokclmdaaGreatDoor.S Go.Proofs.YtkikekiokclmdaaGreatDoor.OpenK
theorem returns_and_shaped {H : Type} {enc : TypeId × Value → H} {a : Assume} {C : Checked} {os : Os} {f : FuncId} {fn : Func} {s : ChangeSpec} {conds : List PathCond} {apart fresh handsOn again : Bool} {X : World → Array Value → Prop}
    (hX : ∀ (w w' : World) (args : Array Value), w.heap = w'.heap → X w args → X w' args)
    (own : ownKnob C.prog.godebug = none) (started : os.Started) (noInit : C.prog.inits.idxOf? f = none) (hfn : C.prog.funcs[f]? = some fn)
    (witness : ∃ (w : World) (tape : Tape) (i : Input), w.os = os ∧ (w.forCall tape i).Shaped C.prog ∧ i.vars = [] ∧ Input.okWide C.prog (w.forCall tape i) .any w.heap.size f i ∧
      ((s.pre enc C.prog fn conds apart (w.forCall tape i).memory i.args ∧ X (w.forCall tape i).memory i.args) ∧ sizedMet enc C.prog fn (OpenSpec.ofChange s) apart (w.forCall tape i).memory i.args) ∧ a.holds C.prog (lone (Frame.enter C.prog f i.args .normal) [] (w.forCall tape i)))
    (contract : ∀ (W : World) (base : Nat) (args : Array Value) (ds gs : List (DataW H)) (before : List MemPlace),
      (∀ (j : Nat) t v, fn.params[j]? = some t → args[j]? = some v → Value.okWide C.prog W .any base t v) →
      DataW.Whole enc C.prog fn.params.toList s.vars apart W args.toList ds gs before →
      conds.all (PathCond.test C.prog ⟨fn.params.toList, ds, s.plain.varTypes C.prog, gs⟩) = true →
      (DataW.weightsEach C.prog (fn.params.toList ++ s.plain.varTypes C.prog) (ds ++ gs)).all (· ≤ reachBytes) = true → X W args → W.ShapedOpen C.prog →
      a.holds C.prog (lone (Frame.enter C.prog f args .normal) [] W) →
      Calls C.prog f args W fun e W' => ∃ v, e = .returned v ∧ s.post enc C.prog fn apart fresh handsOn again W args v W') :
    ReturnsInHanded a C os f .any (fun w args => (s.pre enc C.prog fn conds apart w args ∧ X w args) ∧ sizedMet enc C.prog fn (OpenSpec.ofChange s) apart w args) (s.post enc C.prog fn apart fresh handsOn again) := by
  refine returnsInHanded_of_calls own started noInit witness ?_
  intro w tape i _ hsh _ hok hpre hholds
  obtain ⟨_, _, _, fn', hfn', _, _, _, _, hval⟩ := hok
  have e : fn' = fn := Option.some.inj (hfn'.symm.trans hfn)
  subst e
  obtain ⟨⟨⟨ds, gs, before, hw, hc⟩, hx⟩, hz⟩ := hpre
  have hw' := DataW.Whole.of_heap (w' := w.forCall tape i) (by rfl) hw
  refine (contract (w.forCall tape i) w.heap.size i.args ds gs before hval hw' hc (hz.weights hw) (hX _ _ _ (by rfl) hx) hsh hholds).mono fun e W' ⟨v, he, hp⟩ => ?_
  subst he
  exact ChangeSpec.post_blind hp
abbrev laid1 : List (String × DataW Unit) := [("math/bits.deBruijn32tab", Rows.laid_math_bits_deBruijn32tab), ("math/bits.deBruijn64tab", Rows.laid_math_bits_deBruijn64tab), ("internal/strconv.uint64pow10", Rows.laid_internal_strconv_uint64pow10), ("unicode/utf8.acceptRanges", Rows.laid_unicode_utf8_acceptRanges), ("strconv.ErrRange", Rows.laid_strconv_ErrRange), ("strconv.ErrSyntax", Rows.laid_strconv_ErrSyntax), ("unicode/utf8.first", Rows.laid_unicode_utf8_first)]
theorem own : ownKnob Tryz.prog.godebug = none := by kernel_rfl
theorem tTab : (Tryz.prog.globals[0]?).map (·.type) = some 102 := by kernel_rfl
theorem tRng : (Tryz.prog.globals[3]?).map (·.type) = some 46 := by kernel_rfl
theorem star : "*" ++ "errors.errorString" = "*errors.errorString" := by decide
theorem rowErr (u : TypeId) (h : Tryz.prog.typeName? 3 u = some "*errors.errorString") : u = 128 :=
  typeName_ptr_named (nm := "errors.errorString") (by rw [star]; kernel_rfl) (by kernel_rfl) (by decide) u (by rw [star]; exact h)
theorem kindsMet (os : Os) (args : Array Value) : laidMetH Tryz.prog laid1 ((World.laidAll Tryz.prog os laid1).forCall (fun _ _ => 0) ⟨#[], args, []⟩).memory := by
  rw [MakeChecks.laidMetH_plain _ _ _ (by kernel_rfl)]
  exact laidMet_laidAll _ (by kernel_rfl) (by kernel_rfl)
theorem gw_of {W : World} (hL : laidMetH Tryz.prog laid1 W) (hsh : W.ShapedOpen Tryz.prog) : GW W := by
  rw [MakeChecks.laidMetH_plain _ _ _ (by kernel_rfl)] at hL
  refine ⟨Lib.tabIs_of_head (rest := laid1.drop 3) gTab tTab Tryz.underlying102 Tryz.underlying30 (by kernel_rfl) (by kernel_rfl) hL.tail.tail, ?_⟩
  obtain ⟨a0, s0, hv0, _⟩ := laid_sentinel hL.tail.tail.tail.tail gRng tRng Tryz.underlying46 rowErr Tryz.underlying128 Tryz.underlying130 rfl rfl Tryz.underlying9 (by kernel_rfl) (by kernel_rfl)
  exact ⟨_, _, hv0⟩
set_option maxRecDepth 100000
abbrev wf64 (n : Int) : Prop := (Lit.int .i64 n).wf = true
theorem opens_strs : Opens Tryz.prog 23 (Kd.slice 9 Kd.string) (fun l => l.length ≤ 9223372036854775806 ∧ ∀ x ∈ l, x.size ≤ 140737488351232) :=
  Opens.mono (opens_slice Tryz.underlying23 (opens_string Tryz.underlying9) (by kernel_rfl) (by decide) (of_decide_eq_true (by kernel_rfl))) (fun l h => ⟨by
    have := h.1
    rw [show Tryz.prog.bytesOf 9 = 16 by kernel_rfl] at this
    omega, h.2⟩)
section
variable {H : Type} {enc : TypeId × Value → H} {W : World} {v : Value} {d : DataW H} {ps : List MemPlace} {base : Nat}
theorem open_strs (hval : Value.okWide Tryz.prog W .any base 23 v) (h : DataW.Trod enc Tryz.prog W 0 (fun _ => true) true 23 v d ps) (hz : ∀ n ∈ d.weights Tryz.prog 23, n ≤ 140737488351232) :
    ∃ (A : Option Addr) (c : Nat) (l : List ByteArray), v = .slice A l.length c ∧ Kd.C Kd.string W A l.length l ∧ l.length ≤ c ∧ (l.length ≤ 9223372036854775806 ∧ ∀ x ∈ l, x.size ≤ 140737488351232) ∧ (∀ x ∈ ps, x.block < W.heap.size) := by
  obtain ⟨x, hK, hB, hlt⟩ := opens_strs.arg h hz
  obtain ⟨A, n, c, rfl⟩ := okWide_slice Tryz.underlying23 hval
  obtain ⟨A1, c1, e, hl, hC⟩ := hK
  have : (Value.slice A n c).cells.toList = [.slice A n c] := rfl
  rw [this] at e
  injection e with e _
  injection e with e1 e2 e3
  subst e1; subst e2; subst e3
  exact ⟨_, _, x, rfl, hC, hl, hB, hlt⟩
end
end Go.Proofs.YtkikekiokclmdaaGreatDoor.Tied

namespace Go.Proofs.YtkikekiokclmdaaGreatDoor.Tied
open Go.ChangeShapes Go.WideShapes Go.ChangeAt Go.WideMaps Go.WideElems Go.RowKit Go.Proofs.YtkikekiokclmdaaGreatDoorW.PrintWords Go.Proofs.YtkikekiokclmdaaGreatDoor.S Go.Proofs.YtkikekiokclmdaaGreatDoor.OpenK
set_option maxRecDepth 100000
theorem opens_ints : Opens Tryz.prog 22 (Kd.slice 2 (Kd.int .i64)) (fun l => l.length ≤ 9223372036854775806 ∧ ∀ x ∈ l, wf64 x) :=
  Opens.mono (opens_slice Tryz.underlying22 (opens_int Tryz.underlying2) (by kernel_rfl) (by decide) (of_decide_eq_true (by kernel_rfl))) (fun l h => ⟨by
    have := h.1
    rw [show Tryz.prog.bytesOf 2 = 8 by kernel_rfl] at this
    omega, h.2⟩)
theorem open_ints {H : Type} {enc : TypeId × Value → H} {W : World} {v : Value} {d : DataW H} {ps : List MemPlace} {base : Nat} (hval : Value.okWide Tryz.prog W .any base 22 v) (h : DataW.Trod enc Tryz.prog W 0 (fun _ => true) true 22 v d ps) (hz : ∀ n ∈ d.weights Tryz.prog 22, n ≤ 140737488351232) :
    ∃ (A : Option Addr) (c : Nat) (l : List Int), v = .slice A l.length c ∧ Kd.C (Kd.int .i64) W A l.length l ∧ l.length ≤ c ∧ (l.length ≤ 9223372036854775806 ∧ ∀ x ∈ l, wf64 x) ∧ (∀ x ∈ ps, x.block < W.heap.size) := by
  obtain ⟨x, hK, hB, hlt⟩ := opens_ints.arg h hz
  obtain ⟨A, n, c, rfl⟩ := okWide_slice Tryz.underlying22 hval
  obtain ⟨A1, c1, e, hl, hC⟩ := hK
  have : (Value.slice A n c).cells.toList = [.slice A n c] := rfl
  rw [this] at e
  injection e with e _
  injection e with e1 e2 e3
  subst e1; subst e2; subst e3
  exact ⟨_, _, x, rfl, hC, hl, hB, hlt⟩
end Go.Proofs.YtkikekiokclmdaaGreatDoor.Tied
