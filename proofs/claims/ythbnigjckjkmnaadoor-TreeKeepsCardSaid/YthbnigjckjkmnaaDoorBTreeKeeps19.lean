/- What the proof needs, part 19 of 21. TreeKeeps: for every raw plan and number Part leaves its arguments as they were, and what it answers is new memory. -/
import Derived.Test.YthbnigjckjkmnaaDoorRows
import Derived.Test.YthbnigjckjkmnaaDoorTie
import Derived.Test.YthbnigjckjkmnaaDoorCards
import Derived.ProofKit
import Derived.LaidMore
import Derived.OpenShut
import Derived.Stop.Joined
import Derived.SevenTiedAt
import Derived.HandedShaped
import Derived.ShutString
import Derived.ChangeOld
import Derived.SizedLaws
import Derived.Test.YthbnigjckjkmnaaDoorBTreeKeeps8
import Derived.Test.YthbnigjckjkmnaaDoorBTreeKeeps5
import Derived.Test.YthbnigjckjkmnaaDoorBTreeKeeps18
set_option linter.unusedVariables false
set_option linter.unusedSimpArgs false
namespace Go.Proofs.YthbnigjckjkmnaaDoor.Tied
open Go.ChangeShapes Go.WideShapes Go.ChangeAt Go.WideMaps Go.WideElems Go.RowKit Go.Proofs.YthbnigjckjkmnaaDoorW.PrintWords Go.Proofs.YthbnigjckjkmnaaDoor.S Go.Proofs.YthbnigjckjkmnaaDoor.OpenK
theorem returns_and_shaped {H : Type} {enc : TypeId × Value → H} {a : Assume} {C : Checked} {os : Os} {f : FuncId} {fn : Func} {s : ChangeSpec} {conds : List PathCond} {apart fresh handsOn again : Bool} {X : World → Array Value → Prop}
    (hX : ∀ (w w' : World) (args : Array Value), w.heap = w'.heap → X w args → X w' args)
    (own : ownKnob C.prog.godebug = none) (started : os.Started) (noInit : C.prog.inits.idxOf? f = none) (hfn : C.prog.funcs[f]? = some fn)
    (witness : ∃ (w : World) (tape : Tape) (i : Input), w.os = os ∧ (w.forCall tape i).Shaped C.prog ∧ i.vars = [] ∧ Input.okWide C.prog (w.forCall tape i) .any w.heap.size f i ∧
      ((s.pre enc C.prog fn conds apart (w.forCall tape i).memory i.args ∧ X (w.forCall tape i).memory i.args) ∧ sizedMet enc C.prog fn (OpenSpec.ofChange s) apart (w.forCall tape i).memory i.args) ∧ a.holds C.prog (lone (Frame.enter C.prog f i.args .normal) [] (w.forCall tape i)))
    (contract : ∀ (W : World) (base : Nat) (args : Array Value) (ds gs : List (DataW H)) (before : List MemPlace),
      (∀ (j : Nat) t v, fn.params[j]? = some t → args[j]? = some v → Value.okWide C.prog W .any base t v) →
      DataW.Whole enc C.prog fn.params.toList s.vars apart W args.toList ds gs before →
      conds.all (PathCond.test C.prog ⟨fn.params.toList, ds, s.plain.varTypes C.prog, gs⟩) = true →
      (DataW.weightsEach C.prog (fn.params.toList ++ s.plain.varTypes C.prog) (ds ++ gs)).all (· ≤ reachBytes) = true → X W args → W.ShapedOpen C.prog →
      a.holds C.prog (lone (Frame.enter C.prog f args .normal) [] W) →
      Calls C.prog f args W fun e W' => ∃ v, e = .returned v ∧ s.post enc C.prog fn apart fresh handsOn again W args v W') :
    ReturnsInHanded a C os f .any (fun w args => (s.pre enc C.prog fn conds apart w args ∧ X w args) ∧ sizedMet enc C.prog fn (OpenSpec.ofChange s) apart w args) (s.post enc C.prog fn apart fresh handsOn again) := by
  refine returnsInHanded_of_calls own started noInit witness ?_
  intro w tape i _ hsh _ hok hpre hholds
  obtain ⟨_, _, _, fn', hfn', _, _, _, _, hval⟩ := hok
  have e : fn' = fn := Option.some.inj (hfn'.symm.trans hfn)
  subst e
  obtain ⟨⟨⟨ds, gs, before, hw, hc⟩, hx⟩, hz⟩ := hpre
  have hw' := DataW.Whole.of_heap (w' := w.forCall tape i) (by rfl) hw
  refine (contract (w.forCall tape i) w.heap.size i.args ds gs before hval hw' hc (hz.weights hw) (hX _ _ _ (by rfl) hx) hsh hholds).mono fun e W' ⟨v, he, hp⟩ => ?_
  subst he
  exact ChangeSpec.post_blind hp
abbrev laid1 : List (String × DataW Unit) := [("octroi/tree.kinds", Rows.laid_octroi_tree_kinds)]
theorem own : ownKnob Tryd.prog.godebug = none := by kernel_rfl
theorem gKinds : Tryd.prog.globalNamed "octroi/tree.kinds" = some 0 := by kernel_rfl
theorem tKinds : (Tryd.prog.globals[0]?).map (·.type) = some 82 := by kernel_rfl
theorem kindsMet (os : Os) (args : Array Value) : laidMetH Tryd.prog laid1 ((World.doorLaid Tryd.prog 30 os).forCall (fun _ _ => 0) ⟨#[], args, []⟩).memory :=
  laidMetH_of_parts3 (fuel := 8) (laidMet_of_run' 8 (by kernel_rfl) (by kernel_rfl)) (by kernel_rfl) (by kernel_rfl)
section
variable {H : Type} {enc : TypeId × Value → H} {P : Program} {w : World} {base : Nat} {spare : Nat → Bool} {held : Bool} {fuel : Nat} {t : TypeId} {cs : List Value}
theorem cell_int {n : Int} {ps : List MemPlace} (ht : P.underlying t = some (.int .i64)) (h : DataW.trod enc P w base spare held fuel t cs = some (.lit (.int .i64 n), ps)) : cs = [.int .i64 n] := by
  obtain ⟨k, rfl, e, _⟩ := DataW.trod_int ht h
  simp at e
  rw [e.1]
theorem cell_bool {n : Bool} {ps : List MemPlace} (ht : P.underlying t = some .bool) (h : DataW.trod enc P w base spare held fuel t cs = some (.lit (.bool n), ps)) : cs = [.bool n] := by
  cases fuel with
  | zero => simp [DataW.trod] at h
  | succ m =>
    unfold DataW.trod at h
    rw [ht] at h
    match cs, h with
    | [.bool b], h =>
      simp only [Option.some.injEq, Prod.mk.injEq] at h
      have := h.1
      simp at this
      rw [this]
end
theorem getD_one {cs : List Value} {j : Nat} {v : Value} (h : (cs.drop j).take 1 = [v]) : cs[j]? = some v := by
  have h1 : ((cs.drop j).take 1)[0]? = some v := by rw [h]; rfl
  rw [List.getElem?_take] at h1
  simpa using h1
theorem kinds_of {W : World} (h : laidMetH Tryd.prog laid1 W) : ∀ i : Nat, i < 17 → W.cell? ⟨0, i * 4, none⟩ = some (.int .i64 (tk i)) ∧ W.cell? ⟨0, i * 4 + 1, none⟩ = some (.int .i64 (mo i)) ∧ W.cell? ⟨0, i * 4 + 2, none⟩ = some (.bool (ti i)) ∧ W.cell? ⟨0, i * 4 + 3, none⟩ = some (.bool (op i)) := by
  rw [MakeChecks.laidMetH_plain _ _ _ (by kernel_rfl)] at h
  obtain ⟨ps, ⟨g0, t0, cs0, f0, p0, q0, hg0, ht0, hv0, hd0, _, _⟩, _, _⟩ := h
  obtain rfl := Option.some.inj (gKinds.symm.trans hg0)
  obtain rfl := Option.some.inj (tKinds.symm.trans ht0)
  obtain ⟨xs, m1, rfl, hx, hlen, hn, hel⟩ := DataW.trod_array Tryd.underlying82 hd0
  have c81 : Tryd.prog.cellsOf 81 = 4 := by kernel_rfl
  have hxs : xs.map (·.1) = (List.range 17).map fun (i : Nat) => (.agg [.lit (.int .i64 (tk i)), .lit (.int .i64 (mo i)), .lit (.bool (ti i)), .lit (.bool (op i))] : DataW Unit) := by
    simp only [Prod.mk.injEq] at hx
    have h1 := hx.1
    unfold Rows.laid_octroi_tree_kinds at h1
    simp only [DataW.agg.injEq] at h1
    rw [← h1]
    rfl
  intro i hi
  have hi' : i < xs.length := by omega
  have hxi : xs[i].1 = .agg [.lit (.int .i64 (tk i)), .lit (.int .i64 (mo i)), .lit (.bool (ti i)), .lit (.bool (op i))] := by
    have h1 : (xs.map (·.1))[i]? = some xs[i].1 := by simp [List.getElem?_eq_getElem hi']
    rw [hxs] at h1
    rw [List.getElem?_map, List.getElem?_range hi] at h1
    exact (Option.some.inj h1).symm
  have hi2 := hel i hi
  rw [List.getElem?_eq_getElem hi', c81] at hi2
  obtain ⟨ys, m2, _, hy, hlen2, hn2, hf⟩ := DataW.trod_struct Tryd.underlying81 hi2
  rw [c81] at hlen2
  have hcell := fun j => World.var?_cell hg0 hv0 j
  have hy1 : ys.map (·.1) = [.lit (.int .i64 (tk i)), .lit (.int .i64 (mo i)), .lit (.bool (ti i)), .lit (.bool (op i))] := by
    have h1 := congrArg Prod.fst hy
    rw [hxi] at h1
    simpa using h1.symm
  match ys, hy1, hf with
  | [y0, y1, y2, y3], hy1, hf =>
    simp only [List.map_cons, List.map_nil, List.cons.injEq, and_true] at hy1
    obtain ⟨e0, e1, e2, e3⟩ := hy1
    have c2 : Tryd.prog.cellsOf 2 = 1 := by kernel_rfl
    have c3 : Tryd.prog.cellsOf 3 = 1 := by kernel_rfl
    have c4 : Tryd.prog.cellsOf 4 = 1 := by kernel_rfl
    have f0 := hf 0 _ rfl
    have f1 := hf 1 _ rfl
    have f2 := hf 2 _ rfl
    have f3 := hf 3 _ rfl
    change DataW.trod _ _ _ _ _ _ _ 3 (List.take (Tryd.prog.cellsOf 3) (List.drop 0 _)) = some y0 at f0
    change DataW.trod _ _ _ _ _ _ _ 2 (List.take (Tryd.prog.cellsOf 2) (List.drop 1 _)) = some y1 at f1
    change DataW.trod _ _ _ _ _ _ _ 4 (List.take (Tryd.prog.cellsOf 4) (List.drop 2 _)) = some y2 at f2
    change DataW.trod _ _ _ _ _ _ _ 4 (List.take (Tryd.prog.cellsOf 4) (List.drop 3 _)) = some y3 at f3
    rw [c3] at f0
    rw [c2] at f1
    rw [c4] at f2 f3
    have k0 := cell_int (n := tk i) (ps := y0.2) Tryd.underlying3 (by rw [f0, ← e0])
    have k1 := cell_int (n := mo i) (ps := y1.2) Tryd.underlying2 (by rw [f1, ← e1])
    have k2 := cell_bool (n := ti i) (ps := y2.2) Tryd.underlying4 (by rw [f2, ← e2])
    have k3 := cell_bool (n := op i) (ps := y3.2) Tryd.underlying4 (by rw [f3, ← e3])
    have g0 := getD_one k0
    have g1 := getD_one k1
    have g2 := getD_one k2
    have g3 := getD_one k3
    have tkn : ∀ j, j < 4 → ((cs0.toList.drop (i * 4)).take 4)[j]? = cs0[i * 4 + j]? := by
      intro j hj
      rw [List.getElem?_take, if_pos hj, List.getElem?_drop]
      simp
    rw [tkn _ (by omega)] at g0 g1 g2 g3
    exact ⟨(hcell _).trans g0, (hcell _).trans g1, (hcell _).trans g2, (hcell _).trans g3⟩
theorem gw_of {W : World} (hL : laidMetH Tryd.prog laid1 W) (hsh : W.ShapedOpen Tryd.prog) : GW W :=
  ⟨cell_of_shapedOpen_int (zero := #[.int .i64 0]) (t := 3) hsh (of_decide_eq_true (by kernel_rfl)) (by kernel_rfl) rfl (by kernel_rfl) (by kernel_rfl) Tryd.underlying3, kinds_of hL⟩
end Go.Proofs.YthbnigjckjkmnaaDoor.Tied
