/- Two plans with types, put together under a node that takes two, have the types of both and money; multiplied they have none; with a number ahead they have. For every two plans that the card lets in. -/
import Derived.Test.YthbnigjckjkmnaaDoorRows
import Derived.WalkKit
import Derived.ProofKit
import Derived.OpenShut
import Derived.ShutString
import Derived.ChangeOld
import Derived.Below
import Derived.SizedLaws
import Derived.HandedShaped
import Derived.Test.YthbnigjckjkmnaaDoorBUnitsGrow17
import Derived.Test.YthbnigjckjkmnaaDoorBUnitsGrow14
import Derived.Test.YthbnigjckjkmnaaDoorBUnitsGrow15
set_option linter.unusedVariables false
set_option linter.unusedSimpArgs false
namespace Go.Proofs.YthbnigjckjkmnaaDoor.Tied
open Go.ChangeShapes Go.WideShapes Go.ChangeAt Go.WideMaps Go.WideElems Go.RowKit Go.Proofs.YthbnigjckjkmnaaDoorW.PrintWords Go.Proofs.YthbnigjckjkmnaaDoor.S Go.Proofs.YthbnigjckjkmnaaDoor.OpenK
abbrev wf64 (n : Int) : Prop := (Lit.int .i64 n).wf = true
theorem opens_tier0 : Opens Tryd.prog 45 (Kd.pair (Kd.int .i64) (Kd.int .i64)) (fun p => wf64 p.1 ∧ wf64 p.2) := by
  refine opens_struct Tryd.underlying45 (by kernel_rfl) ?_
  change OpensEach _ [_, _] _ _ _
  refine each_cons (opens_int Tryd.underlying2) rfl (by kernel_rfl) ?_
  exact each_one (opens_int Tryd.underlying2) rfl (by kernel_rfl)
theorem opens_tier : Opens Tryd.prog 45 k45 (fun _ => True) :=
  Opens.mono (opens_iso opens_tier0 (fun x : S45 => (x.f0, x.f1)) (fun p => ⟨p.1, p.2⟩) (fun _ => rfl)) (fun _ _ => trivial)
theorem opens_dim0 : Opens Tryd.prog 47 (Kd.pair Kd.string (Kd.int .i64)) (fun p => p.1.size ≤ 140737488351232 ∧ wf64 p.2) := by
  refine opens_struct Tryd.underlying47 (by kernel_rfl) ?_
  change OpensEach _ [_, _] _ _ _
  refine each_cons (opens_string Tryd.underlying9) rfl (by kernel_rfl) ?_
  exact each_one (opens_int Tryd.underlying2) rfl (by kernel_rfl)
theorem opens_dim : Opens Tryd.prog 47 k47 (fun x => x.f0.size ≤ 140737488351232) :=
  Opens.mono (opens_iso opens_dim0 (fun x : S47 => (x.f0, x.f1)) (fun p => ⟨p.1, p.2⟩) (fun _ => rfl)) (fun v h => h.1)
theorem opens_tiers : Opens Tryd.prog 31 (Kd.slice 45 k45) (fun l => l.length ≤ 8796093022208) :=
  Opens.mono (opens_slice Tryd.underlying31 opens_tier (by kernel_rfl) (by decide) (of_decide_eq_true (by kernel_rfl))) (fun l h => by
    have := h.1
    rw [show Tryd.prog.bytesOf 45 = 16 by kernel_rfl] at this
    omega)
def NB (x : S33) : Prop := x.f4.length ≤ 8796093022208
theorem opens_node0 : Opens Tryd.prog 33 (Kd.pair (Kd.int .i64) (Kd.pair (Kd.int .i64) (Kd.pair (Kd.int .i64) (Kd.pair (Kd.int .i64) (Kd.pair (Kd.slice 45 k45) (Kd.int .i64)))))) (fun p => wf64 p.1 ∧ wf64 p.2.1 ∧ wf64 p.2.2.1 ∧ wf64 p.2.2.2.1 ∧ p.2.2.2.2.1.length ≤ 8796093022208 ∧ wf64 p.2.2.2.2.2) := by
  refine opens_struct Tryd.underlying33 (by kernel_rfl) ?_
  change OpensEach _ [_, _, _, _, _, _] _ _ _
  refine each_cons (B := wf64) (B' := fun p : Int × Int × Int × List S45 × Int => wf64 p.1 ∧ wf64 p.2.1 ∧ wf64 p.2.2.1 ∧ p.2.2.2.1.length ≤ 8796093022208 ∧ wf64 p.2.2.2.2) ?_ rfl (by kernel_rfl) ?_
  · exact (opens_int Tryd.underlying3)
  refine each_cons (B := wf64) (B' := fun p : Int × Int × List S45 × Int => wf64 p.1 ∧ wf64 p.2.1 ∧ p.2.2.1.length ≤ 8796093022208 ∧ wf64 p.2.2.2) ?_ rfl (by kernel_rfl) ?_
  · exact (opens_int Tryd.underlying2)
  refine each_cons (B := wf64) (B' := fun p : Int × List S45 × Int => wf64 p.1 ∧ p.2.1.length ≤ 8796093022208 ∧ wf64 p.2.2) ?_ rfl (by kernel_rfl) ?_
  · exact (opens_int Tryd.underlying3)
  refine each_cons (B := wf64) (B' := fun p : List S45 × Int => p.1.length ≤ 8796093022208 ∧ wf64 p.2) ?_ rfl (by kernel_rfl) ?_
  · exact (opens_int Tryd.underlying3)
  refine each_cons (B := fun l : List S45 => l.length ≤ 8796093022208) (B' := wf64) ?_ rfl (by kernel_rfl) ?_
  · exact opens_tiers
  exact each_one (opens_int Tryd.underlying3) rfl (by kernel_rfl)
theorem opens_node : Opens Tryd.prog 33 k33 NB :=
  Opens.mono (opens_iso opens_node0 (fun x : S33 => (x.f0, x.f1, x.f2, x.f3, x.f4, x.f5)) (fun p => ⟨p.1, p.2.1, p.2.2.1, p.2.2.2.1, p.2.2.2.2.1, p.2.2.2.2.2⟩) (fun _ => rfl)) (fun v h => h.2.2.2.2.1)
theorem opens_dims : Opens Tryd.prog 22 (Kd.slice 47 k47) (fun l => l.length ≤ 5864062014634 ∧ ∀ x ∈ l, x.f0.size ≤ 140737488351232) :=
  Opens.mono (opens_slice Tryd.underlying22 opens_dim (by kernel_rfl) (by decide) (of_decide_eq_true (by kernel_rfl))) (fun l h => ⟨by
    have := h.1
    rw [show Tryd.prog.bytesOf 47 = 24 by kernel_rfl] at this
    omega, h.2⟩)
theorem opens_nodes : Opens Tryd.prog 23 (Kd.slice 33 k33) (fun l => l.length ≤ 2199023255488 ∧ ∀ x ∈ l, NB x) :=
  Opens.mono (opens_slice Tryd.underlying23 opens_node (by kernel_rfl) (by decide) (of_decide_eq_true (by kernel_rfl))) (fun l h => ⟨by
    have := h.1
    rw [show Tryd.prog.bytesOf 33 = 64 by kernel_rfl] at this
    omega, h.2⟩)
theorem opens_plan : Opens Tryd.prog 25 (Kd.pair Kd.string (Kd.pair (Kd.slice 47 k47) (Kd.pair (Kd.int .i64) (Kd.slice 33 k33))))
    (fun p => p.1.size ≤ 140737488351232 ∧ (p.2.1.length ≤ 5864062014634 ∧ ∀ x ∈ p.2.1, x.f0.size ≤ 140737488351232) ∧ wf64 p.2.2.1 ∧ (p.2.2.2.length ≤ 2199023255488 ∧ ∀ x ∈ p.2.2.2, NB x)) := by
  refine opens_struct Tryd.underlying25 (by kernel_rfl) ?_
  change OpensEach _ [_, _, _, _] _ _ _
  refine each_cons (B := fun p : ByteArray => p.size ≤ 140737488351232) (B' := fun p : List S47 × Int × List S33 => (p.1.length ≤ 5864062014634 ∧ ∀ x ∈ p.1, x.f0.size ≤ 140737488351232) ∧ wf64 p.2.1 ∧ (p.2.2.length ≤ 2199023255488 ∧ ∀ x ∈ p.2.2, NB x)) ?_ rfl (by kernel_rfl) ?_
  · exact (opens_string Tryd.underlying9)
  refine each_cons (B := fun p : List S47 => (p.length ≤ 5864062014634 ∧ ∀ x ∈ p, x.f0.size ≤ 140737488351232)) (B' := fun p : Int × List S33 => wf64 p.1 ∧ (p.2.length ≤ 2199023255488 ∧ ∀ x ∈ p.2, NB x)) ?_ rfl (by kernel_rfl) ?_
  · exact opens_dims
  refine each_cons (B := wf64) (B' := fun p : List S33 => (p.length ≤ 2199023255488 ∧ ∀ x ∈ p, NB x)) ?_ rfl (by kernel_rfl) ?_
  · exact (opens_int Tryd.underlying3)
  exact each_one opens_nodes rfl (by kernel_rfl)
theorem open_plan {H : Type} {enc : TypeId × Value → H} {W : World} {v : Value} {d : DataW H} {ps : List MemPlace} {base : Nat} (hval : Value.okWide Tryd.prog W .any base 25 v) (h : DataW.Trod enc Tryd.prog W 0 (fun _ => true) true 25 v d ps) (hz : ∀ n ∈ d.weights Tryd.prog 25, n ≤ 140737488351232) :
    ∃ (a0 : ByteArray) (A1 : Option Addr) (c1 : Nat) (l1 : List Dm) (a2 : Int) (A3 : Option Addr) (c3 : Nat) (l3 : List Nd), v = .agg #[.string a0, .slice A1 l1.length c1, .int .i64 a2, .slice A3 l3.length c3] ∧
      Kd.C k47 W A1 l1.length l1 ∧ l1.length ≤ c1 ∧ Kd.C k33 W A3 l3.length l3 ∧ l3.length ≤ c3 ∧ PB2 a0 l1 a2 l3 ∧ (∀ x ∈ ps, x.block < W.heap.size) := by
  obtain ⟨⟨a0, l1, a2, l3⟩, hK, hB, hlt⟩ := opens_plan.arg h hz
  simp only at hB
  obtain ⟨cs, rfl, hcs⟩ := okWide_struct Tryd.underlying25 hval
  obtain ⟨_, _, e0, rfl, _, _, rfl, ⟨A1, c1, rfl, hl1, hC1⟩, _, _, rfl, rfl, ⟨A3, c3, rfl, hl3, hC3⟩⟩ := hK
  refine ⟨a0, A1, c1, l1, a2, A3, c3, l3, ?_, hC1, hl1, hC3, hl3, ?_, hlt⟩
  · have e1 : cs.toList = [.string a0, .slice A1 l1.length c1, .int .i64 a2, .slice A3 l3.length c3] := by
      have : (Value.agg cs).cells = cs := by simp [Value.cells]
      rw [this] at e0
      simpa using e0
    obtain ⟨l⟩ := cs
    simp only at e1
    rw [e1]
  · exact ⟨⟨hB.1, by have := hB.2.1.1; omega, hB.2.1.2, by have := hB.2.2.2.1; omega, fun n hn => by have := hB.2.2.2.2 n hn; unfold NB at this; omega⟩, hB.2.1.1, hB.2.2.2.1, fun n hn => hB.2.2.2.2 n hn, wf_i64 hB.2.2.1⟩
theorem shared {W : World} {A3 : Option Addr} {c3 : Nat} {l3 : List Nd} (h : Kd.C k33 W A3 l3.length l3) (hl : l3.length ≤ c3) : Kd.V k33 33 W W.heap.size (fun k_ => (fun k => k < W.heap.size) k_) (.slice A3 l3.length c3) l3 := Kd.V_mk hl (Kd.C_F k33_heap h)
end Go.Proofs.YthbnigjckjkmnaaDoor.Tied

namespace Go.Proofs.YthbnigjckjkmnaaDoor.unitsGrow
open Go.ChangeShapes Go.WideShapes Go.ChangeAt Go.RowKit
open Go.ChangeMaps (open_string shut_string)
theorem own : ownKnob Tryd.prog.godebug = none := by kernel_rfl
open Tied
set_option maxRecDepth 100000 in
theorem lifted (os : Os) (started : os.Started) (H : Type) (enc : TypeId × Value → H) :
    ReturnsInHanded {} Tryd.checked os 12 .any (fun w args => (Rows.unitsGrowSpec.pre enc Tryd.prog Tryd.f12 [] false w args ∧ laidMetH Tryd.prog laid1 w) ∧ sizedMet enc Tryd.prog Tryd.f12 (OpenSpec.ofChange Rows.unitsGrowSpec) false w args) (Rows.unitsGrowSpec.post enc Tryd.prog Tryd.f12 false true false false) := by
  refine returns_and_shaped (C := Tryd.checked) (X := fun w _ => laidMetH Tryd.prog laid1 w) (fun _ _ _ hh h => h.of_heap hh) own started (by kernel_rfl) Tryd.func12
    (ChangeSpec.witness_shaped (enc := enc) (C := Tryd.checked) (os := os) (X := fun w _ => laidMetH Tryd.prog laid1 w) false (World.doorLaid Tryd.prog 30 os) #[.agg #[.string ByteArray.empty, .slice none 0 0, .int .i64 0, .slice none 0 0], .agg #[.string ByteArray.empty, .slice none 0 0, .int .i64 0, .slice none 0 0]] 8 rfl (World.shaped_of_RefB (by kernel_rfl) (by kernel_rfl)) (by kernel_rfl) (by kernel_rfl) (by kernel_rfl) (kindsMet os _)) ?_
  intro W base args ds gs before hval0 hW hcnd hsz0 hL hsh _
  have hsz : (DataW.weightsEach Tryd.prog (Tryd.f12.params.toList ++ Rows.unitsGrowSpec.plain.varTypes Tryd.prog) (ds ++ gs)).all (· ≤ reachBytes) = true := hsz0
  have hval : ∀ (j : Nat) t v, Tryd.f12.params[j]? = some t → args[j]? = some v → Value.okWide Tryd.prog W .any base t v := hval0
  have hW' := hW
  obtain ⟨p, q, hA0, hV, rfl, hfz, hnd⟩ := hW
  have hA : DataW.TrodAll enc Tryd.prog W 0 (fun _ => true) true Tryd.f12.params.toList args.toList ds p := hA0
  rw [Tryd.params12] at hA hval hsz
  obtain ⟨v0, vs0, d0, ds0, p0, q0, hargs, rfl, rfl, h0, r0⟩ := trodAll_cons hA
  obtain ⟨v1, vs1, d1, ds1, p1, q1, rfl, rfl, rfl, h1, r1⟩ := trodAll_cons r0
  obtain ⟨rfl, rfl, rfl⟩ := trodAll_nil r1
  obtain rfl : args = #[v0, v1] := by cases args; simp_all
  obtain ⟨rfl, rfl⟩ := trodVars_none hV
  obtain ⟨a0_0, A0_1, c0_1, l0_1, a0_2, A0_3, c0_3, l0_3, rfl, hr0_1, hc0_1, hr0_3, hc0_3, w0, lt0⟩ := open_plan (hval 0 25 v0 rfl rfl) h0 (fun n hn => by
    have z := List.all_eq_true.1 hsz n (DataW.weights_mem_each (j := 0) (t := 25) rfl rfl n hn)
    exact of_decide_eq_true z)
  obtain ⟨a1_0, A1_1, c1_1, l1_1, a1_2, A1_3, c1_3, l1_3, rfl, hr1_1, hc1_1, hr1_3, hc1_3, w1, lt1⟩ := open_plan (hval 1 25 v1 rfl rfl) h1 (fun n hn => by
    have z := List.all_eq_true.1 hsz n (DataW.weights_mem_each (j := 1) (t := 25) rfl rfl n hn)
    exact of_decide_eq_true z)
  clear hA0 hval0 hsz0 hsz
  have hG := gw_of hL hsh
  obtain ⟨k, hk⟩ := S.UnitsGrow a0_0 l0_1 a0_2 l0_3 a1_0 l1_1 a1_2 l1_3 w0 w1
  refine (S.zAD.calls (k := k) (a0_0 := a0_0) (A0_1 := A0_1) (c0_1 := c0_1) (l0_1 := l0_1) (a0_2 := a0_2) (P0_3_ := (fun k => k < W.heap.size)) (A0_3 := A0_3) (c0_3 := c0_3) (l0_3 := l0_3) (a1_0 := a1_0) (A1_1 := A1_1) (c1_1 := c1_1) (l1_1 := l1_1) (a1_2 := a1_2) (P1_3_ := (fun k => k < W.heap.size)) (A1_3 := A1_3) (c1_3 := c1_3) (l1_3 := l1_3) (r := true) (w := W) (hG := hG) (hr0_1 := hr0_1) (hc0_1 := hc0_1) (hs0_3 := (shared hr0_3 hc0_3)) (hr1_1 := hr1_1) (hc1_1 := hc1_1) (hs1_3 := (shared hr1_3 hc1_3)) (h := hk)).mono fun e W' ⟨he, bel⟩ => ?_
  subst he
  exact ⟨_, rfl, _, _, _, [], _, [], hW', trodAll_mk1 (shut_bool Tryd.underlying4 _), (trodAll_cons_mk (Below.trod (by kernel_rfl) (by kernel_rfl) (of_decide_eq_true (by kernel_rfl)) h0 bel lt0) (trodAll_cons_mk (Below.trod (by kernel_rfl) (by kernel_rfl) (of_decide_eq_true (by kernel_rfl)) h1 bel lt1) trodAll_mk0)), rfl, bel.frame _, fun h => by cases h⟩
theorem over : Rows.unitsGrowRow.holds Tryd.pinned (OpenSpec.ofChange Rows.unitsGrowSpec) :=
  OpenClaim.holds_of_wide 12 Tryd.f12 rfl rfl rfl rfl rfl rfl rfl ⟨rfl, rfl, rfl, rfl, rfl⟩ rfl rfl rfl rfl rfl (by kernel_rfl) Tryd.func12 (by kernel_rfl)
    (of_decide_eq_true (by kernel_rfl)) (by unfold Func.isWrapper; first | (rw [if_pos (by decide +kernel)]; kernel_rfl) | (rw [if_neg (by decide +kernel)]; exact ⟨rfl, rfl⟩))
    (fun os started H enc _ => lifted os started H enc)
theorem proved : Rows.UnitsGrowCardSaid :=
  Claim7.holds_tied_plain_at .later [] [.data] true (true, "04c4b40bbce0d84025cb36b361aaef8d3f326e7cf4a843d8aae570efa6aa01d0") false
    over (fun _ h => by cases h) (by kernel_rfl) (fun _ h => by cases h) unitsGrow_row_tie rfl ⟨rfl, rfl⟩ (by kernel_rfl) rfl
    (fun f fn hf hfn => by
      obtain rfl : f = 12 := Option.some.inj ((show Tryd.prog.funcNamed "octroi/octroilaw08.UnitsGrow" = some 12 by kernel_rfl).symm.trans hf) |>.symm
      obtain rfl : fn = Tryd.f12 := (Option.some.inj (Tryd.func12.symm.trans hfn)).symm
      exact ⟨by kernel_rfl, fun j t ht => by
        rw [Tryd.params12] at ht
        have hm : t ∈ [25] := by have := Array.mem_of_getElem? ht; simp at this ⊢; first | exact this | (rcases this with h | h | h <;> subst h <;> decide) | (rcases this with h | h <;> subst h <;> decide) | omega
        have hall : ([25].all fun u => !Tryd.prog.wantsStandIn u) = true := by kernel_rfl
        exact (show Tryd.prog.wantsStandIn t = false by simpa using List.all_eq_true.1 hall t hm)⟩)
    (by kernel_rfl)
#print axioms proved
end Go.Proofs.YthbnigjckjkmnaaDoor.unitsGrow
namespace Go.Proofs.YthbnigjckjkmnaaDoor
theorem unitsGrow_holds : Rows.UnitsGrowCardSaid := unitsGrow.proved
end Go.Proofs.YthbnigjckjkmnaaDoor
