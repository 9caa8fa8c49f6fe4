/- What the proof needs, part 20 of 21. TreeKeeps: for every raw plan and number Part leaves its arguments as they were, and what it answers is new memory. -/
import Derived.Test.YthbnigjckjkmnaaDoorBTreeKeeps19
import Derived.Test.YthbnigjckjkmnaaDoorBTreeKeeps14
set_option linter.unusedVariables false
set_option linter.unusedSimpArgs false
namespace Go.Proofs.YthbnigjckjkmnaaDoor.Tied
open Go.ChangeShapes Go.WideShapes Go.ChangeAt Go.WideMaps Go.WideElems Go.RowKit Go.Proofs.YthbnigjckjkmnaaDoorW.PrintWords Go.Proofs.YthbnigjckjkmnaaDoor.S Go.Proofs.YthbnigjckjkmnaaDoor.OpenK
abbrev wf64 (n : Int) : Prop := (Lit.int .i64 n).wf = true
theorem opens_tier0 : Opens Tryd.prog 45 (Kd.pair (Kd.int .i64) (Kd.int .i64)) (fun p => wf64 p.1 ∧ wf64 p.2) := by
  refine opens_struct Tryd.underlying45 (by kernel_rfl) ?_
  change OpensEach _ [_, _] _ _ _
  refine each_cons (opens_int Tryd.underlying2) rfl (by kernel_rfl) ?_
  exact each_one (opens_int Tryd.underlying2) rfl (by kernel_rfl)
theorem opens_tier : Opens Tryd.prog 45 k45 (fun _ => True) :=
  Opens.mono (opens_iso opens_tier0 (fun x : S45 => (x.f0, x.f1)) (fun p => ⟨p.1, p.2⟩) (fun _ => rfl)) (fun _ _ => trivial)
theorem opens_dim0 : Opens Tryd.prog 47 (Kd.pair Kd.string (Kd.int .i64)) (fun p => p.1.size ≤ 140737488351232 ∧ wf64 p.2) := by
  refine opens_struct Tryd.underlying47 (by kernel_rfl) ?_
  change OpensEach _ [_, _] _ _ _
  refine each_cons (opens_string Tryd.underlying9) rfl (by kernel_rfl) ?_
  exact each_one (opens_int Tryd.underlying2) rfl (by kernel_rfl)
theorem opens_dim : Opens Tryd.prog 47 k47 (fun x => x.f0.size ≤ 140737488351232) :=
  Opens.mono (opens_iso opens_dim0 (fun x : S47 => (x.f0, x.f1)) (fun p => ⟨p.1, p.2⟩) (fun _ => rfl)) (fun v h => h.1)
theorem opens_tiers : Opens Tryd.prog 31 (Kd.slice 45 k45) (fun l => l.length ≤ 8796093021952) :=
  Opens.mono (opens_slice Tryd.underlying31 opens_tier (by kernel_rfl) (by decide) (of_decide_eq_true (by kernel_rfl))) (fun l h => by
    have := h.1
    rw [show Tryd.prog.bytesOf 45 = 16 by kernel_rfl] at this
    omega)
def NB (x : S33) : Prop := x.f4.length ≤ 8796093021952
theorem opens_node0 : Opens Tryd.prog 33 (Kd.pair (Kd.int .i64) (Kd.pair (Kd.int .i64) (Kd.pair (Kd.int .i64) (Kd.pair (Kd.int .i64) (Kd.pair (Kd.slice 45 k45) (Kd.int .i64)))))) (fun p => wf64 p.1 ∧ wf64 p.2.1 ∧ wf64 p.2.2.1 ∧ wf64 p.2.2.2.1 ∧ p.2.2.2.2.1.length ≤ 8796093021952 ∧ wf64 p.2.2.2.2.2) := by
  refine opens_struct Tryd.underlying33 (by kernel_rfl) ?_
  change OpensEach _ [_, _, _, _, _, _] _ _ _
  refine each_cons (B := wf64) (B' := fun p : Int × Int × Int × List S45 × Int => wf64 p.1 ∧ wf64 p.2.1 ∧ wf64 p.2.2.1 ∧ p.2.2.2.1.length ≤ 8796093021952 ∧ wf64 p.2.2.2.2) ?_ rfl (by kernel_rfl) ?_
  · exact (opens_int Tryd.underlying3)
  refine each_cons (B := wf64) (B' := fun p : Int × Int × List S45 × Int => wf64 p.1 ∧ wf64 p.2.1 ∧ p.2.2.1.length ≤ 8796093021952 ∧ wf64 p.2.2.2) ?_ rfl (by kernel_rfl) ?_
  · exact (opens_int Tryd.underlying2)
  refine each_cons (B := wf64) (B' := fun p : Int × List S45 × Int => wf64 p.1 ∧ p.2.1.length ≤ 8796093021952 ∧ wf64 p.2.2) ?_ rfl (by kernel_rfl) ?_
  · exact (opens_int Tryd.underlying3)
  refine each_cons (B := wf64) (B' := fun p : List S45 × Int => p.1.length ≤ 8796093021952 ∧ wf64 p.2) ?_ rfl (by kernel_rfl) ?_
  · exact (opens_int Tryd.underlying3)
  refine each_cons (B := fun l : List S45 => l.length ≤ 8796093021952) (B' := wf64) ?_ rfl (by kernel_rfl) ?_
  · exact opens_tiers
  exact each_one (opens_int Tryd.underlying3) rfl (by kernel_rfl)
theorem opens_node : Opens Tryd.prog 33 k33 NB :=
  Opens.mono (opens_iso opens_node0 (fun x : S33 => (x.f0, x.f1, x.f2, x.f3, x.f4, x.f5)) (fun p => ⟨p.1, p.2.1, p.2.2.1, p.2.2.2.1, p.2.2.2.2.1, p.2.2.2.2.2⟩) (fun _ => rfl)) (fun v h => h.2.2.2.2.1)
theorem opens_dims : Opens Tryd.prog 22 (Kd.slice 47 k47) (fun l => l.length ≤ 5864062014634 ∧ ∀ x ∈ l, x.f0.size ≤ 140737488351232) :=
  Opens.mono (opens_slice Tryd.underlying22 opens_dim (by kernel_rfl) (by decide) (of_decide_eq_true (by kernel_rfl))) (fun l h => ⟨by
    have := h.1
    rw [show Tryd.prog.bytesOf 47 = 24 by kernel_rfl] at this
    omega, h.2⟩)
theorem opens_nodes : Opens Tryd.prog 23 (Kd.slice 33 k33) (fun l => l.length ≤ 2199023255488 ∧ ∀ x ∈ l, NB x) :=
  Opens.mono (opens_slice Tryd.underlying23 opens_node (by kernel_rfl) (by decide) (of_decide_eq_true (by kernel_rfl))) (fun l h => ⟨by
    have := h.1
    rw [show Tryd.prog.bytesOf 33 = 64 by kernel_rfl] at this
    omega, h.2⟩)
theorem opens_plan : Opens Tryd.prog 25 (Kd.pair Kd.string (Kd.pair (Kd.slice 47 k47) (Kd.pair (Kd.int .i64) (Kd.slice 33 k33))))
    (fun p => p.1.size ≤ 140737488351232 ∧ (p.2.1.length ≤ 5864062014634 ∧ ∀ x ∈ p.2.1, x.f0.size ≤ 140737488351232) ∧ wf64 p.2.2.1 ∧ (p.2.2.2.length ≤ 2199023255488 ∧ ∀ x ∈ p.2.2.2, NB x)) := by
  refine opens_struct Tryd.underlying25 (by kernel_rfl) ?_
  change OpensEach _ [_, _, _, _] _ _ _
  refine each_cons (B := fun p : ByteArray => p.size ≤ 140737488351232) (B' := fun p : List S47 × Int × List S33 => (p.1.length ≤ 5864062014634 ∧ ∀ x ∈ p.1, x.f0.size ≤ 140737488351232) ∧ wf64 p.2.1 ∧ (p.2.2.length ≤ 2199023255488 ∧ ∀ x ∈ p.2.2, NB x)) ?_ rfl (by kernel_rfl) ?_
  · exact (opens_string Tryd.underlying9)
  refine each_cons (B := fun p : List S47 => (p.length ≤ 5864062014634 ∧ ∀ x ∈ p, x.f0.size ≤ 140737488351232)) (B' := fun p : Int × List S33 => wf64 p.1 ∧ (p.2.length ≤ 2199023255488 ∧ ∀ x ∈ p.2, NB x)) ?_ rfl (by kernel_rfl) ?_
  · exact opens_dims
  refine each_cons (B := wf64) (B' := fun p : List S33 => (p.length ≤ 2199023255488 ∧ ∀ x ∈ p, NB x)) ?_ rfl (by kernel_rfl) ?_
  · exact (opens_int Tryd.underlying3)
  exact each_one opens_nodes rfl (by kernel_rfl)
theorem open_plan' {H : Type} {enc : TypeId × Value → H} {W : World} {v : Value} {d : DataW H} {ps : List MemPlace} {base : Nat} (hval : Value.okWide Tryd.prog W .any base 25 v) (h : DataW.Trod enc Tryd.prog W 0 (fun _ => true) true 25 v d ps) (hz : ∀ n ∈ d.weights Tryd.prog 25, n ≤ 140737488351232) :
    ∃ (a0 : ByteArray) (A1 : Option Addr) (c1 : Nat) (l1 : List Dm) (a2 : Int) (A3 : Option Addr) (c3 : Nat) (l3 : List Nd), v = .agg #[.string a0, .slice A1 l1.length c1, .int .i64 a2, .slice A3 l3.length c3] ∧
      Kd.C k47 W A1 l1.length l1 ∧ l1.length ≤ c1 ∧ Kd.C k33 W A3 l3.length l3 ∧ l3.length ≤ c3 ∧ (PB2 a0 l1 a2 l3 ∧ ∀ n ∈ l3, n.f4.length < 8796093022208) ∧ (∀ x ∈ ps, x.block < W.heap.size) := by
  obtain ⟨⟨a0, l1, a2, l3⟩, hK, hB, hlt⟩ := opens_plan.arg h hz
  simp only at hB
  obtain ⟨cs, rfl, hcs⟩ := okWide_struct Tryd.underlying25 hval
  obtain ⟨_, _, e0, rfl, _, _, rfl, ⟨A1, c1, rfl, hl1, hC1⟩, _, _, rfl, rfl, ⟨A3, c3, rfl, hl3, hC3⟩⟩ := hK
  refine ⟨a0, A1, c1, l1, a2, A3, c3, l3, ?_, hC1, hl1, hC3, hl3, ?_, hlt⟩
  · have e1 : cs.toList = [.string a0, .slice A1 l1.length c1, .int .i64 a2, .slice A3 l3.length c3] := by
      have : (Value.agg cs).cells = cs := by simp [Value.cells]
      rw [this] at e0
      simpa using e0
    obtain ⟨l⟩ := cs
    simp only at e1
    rw [e1]
  · exact ⟨⟨⟨hB.1, by have := hB.2.1.1; omega, hB.2.1.2, by have := hB.2.2.2.1; omega, fun n hn => by have := hB.2.2.2.2 n hn; unfold NB at this; omega⟩, hB.2.1.1, hB.2.2.2.1, fun n hn => by have := hB.2.2.2.2 n hn; unfold NB at this; omega, wf_i64 hB.2.2.1⟩, fun n hn => by have := hB.2.2.2.2 n hn; unfold NB at this; omega⟩
theorem shared {W : World} {A3 : Option Addr} {c3 : Nat} {l3 : List Nd} (h : Kd.C k33 W A3 l3.length l3) (hl : l3.length ≤ c3) : Kd.V k33 33 W W.heap.size (fun k_ => (fun k => k < W.heap.size) k_) (.slice A3 l3.length c3) l3 := Kd.V_mk hl (Kd.C_F k33_heap h)
end Go.Proofs.YthbnigjckjkmnaaDoor.Tied
