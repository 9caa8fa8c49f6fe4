/- What the proof needs, part 17 of 19. DeciOrder answers true for every two wides; the input reads as it did. -/
import Derived.Deep.Slices
import Derived.SizedLaws
import Derived.Carry
import Derived.WideShapes
import Derived.Test.YtkikekiokclmdaaDoorBDeciOrder1
set_option linter.unusedVariables false
set_option linter.unusedSimpArgs false
namespace Go.Proofs.YtkikekiokclmdaaDoor.OpenK
open Go.ChangeShapes Go.WideShapes Go.RowKit Go.Deep Go.Proofs.YtkikekiokclmdaaDoorW.PrintWords
structure Opens {α : Type} (P : Program) (t : TypeId) (d : Kd α) (B : α → Prop) : Prop where
  out : ∀ {H : Type} {enc : TypeId × Value → H} {W : World} {fuel : Nat} {cs : List Value} {x : DataW H × List MemPlace}, DataW.trod enc P W 0 (fun _ => true) true fuel t cs = some x → (∀ n ∈ x.1.weights P t, n ≤ 140737488351232) →
    ∃ v : α, d.K W v cs ∧ B v ∧ ∀ p ∈ x.2, p.block < W.heap.size
theorem Opens.mono {α : Type} {P : Program} {t : TypeId} {d : Kd α} {B B' : α → Prop} (h : Opens P t d B) (hB : ∀ v, B v → B' v) : Opens P t d B' := ⟨fun h1 h2 => by
  obtain ⟨v, a, b, c⟩ := h.out h1 h2
  exact ⟨v, a, hB v b, c⟩⟩
theorem opens_int {P : Program} {t : TypeId} {k : IntKind} (ht : P.underlying t = some (.int k)) : Opens P t (Kd.int k) (fun n => (Lit.int k n).wf = true) := ⟨fun {H enc W fuel cs x} h1 h2 => by
  cases fuel with
  | zero => simp [DataW.trod] at h1
  | succ m =>
    unfold DataW.trod at h1
    rw [ht] at h1
    match cs, h1 with
    | [.int k' n], h1 =>
      simp only at h1
      split at h1
      · rename_i hk
        obtain ⟨rfl, hw⟩ := hk
        cases h1
        exact ⟨n, rfl, hw, fun p hp => (List.not_mem_nil hp).elim⟩
      · cases h1⟩
structure OpensEach {α : Type} (P : Program) (fs : List Field) (o : Nat) (d : Kd α) (B : α → Prop) : Prop where
  out : ∀ {H : Type} {enc : TypeId × Value → H} {W : World} {fuel : Nat} {cs : List Value} {xs : List (DataW H × List MemPlace)}, cs.length = o + d.sz → xs.length = fs.length →
    (∀ (i : Nat) (f : Field), fs[i]? = some f → DataW.trod enc P W 0 (fun _ => true) true fuel f.type ((cs.drop f.offset).take (P.cellsOf f.type)) = xs[i]?) →
    (∀ n ∈ DataW.weightsEach P (fs.map (·.type)) (xs.map (·.1)), n ≤ 140737488351232) → ∃ v : α, d.K W v (cs.drop o) ∧ B v ∧ ∀ x ∈ xs, ∀ p ∈ x.2, p.block < W.heap.size
theorem each_one {α : Type} {P : Program} {f : Field} {o : Nat} {d : Kd α} {B : α → Prop} (h : Opens P f.type d B) (ho : f.offset = o) (hc : P.cellsOf f.type = d.sz) : OpensEach P [f] o d B := ⟨fun {H enc W fuel cs xs} hl hx ht hw => by
  match xs, hx with
  | [x], _ =>
    have h1 := ht 0 f rfl
    simp only [List.getElem?_cons_zero] at h1
    rw [ho, List.take_of_length_le (by rw [List.length_drop]; omega)] at h1
    obtain ⟨v, a, b, c⟩ := h.out h1 (fun n hn => hw n (by simp [DataW.weightsEach, hn]))
    exact ⟨v, a, b, fun y hy p hp => by rw [List.mem_singleton.1 hy] at hp; exact c p hp⟩⟩
theorem each_cons {α β : Type} {P : Program} {f : Field} {fs : List Field} {o : Nat} {d : Kd α} {d' : Kd β} {B : α → Prop} {B' : β → Prop} (h : Opens P f.type d B) (ho : f.offset = o) (hc : P.cellsOf f.type = d.sz) (h' : OpensEach P fs (o + d.sz) d' B') :
    OpensEach P (f :: fs) o (Kd.pair d d') (fun v => B v.1 ∧ B' v.2) := ⟨fun {H enc W fuel cs xs} hl hx ht hw => by
  match xs, hx with
  | x :: xs, hx =>
    have hl' : cs.length = o + d.sz + d'.sz := by
      have : (Kd.pair d d').sz = d.sz + d'.sz := rfl
      omega
    have h1 := ht 0 f rfl
    simp only [List.getElem?_cons_zero] at h1
    rw [ho, hc] at h1
    obtain ⟨v, a, b, c⟩ := h.out h1 (fun n hn => hw n (by simp [DataW.weightsEach, hn]))
    obtain ⟨v', a', b', c'⟩ := h'.out (xs := xs) hl' (by simpa using hx) (fun i g hi => by have := ht (i + 1) g hi; simpa using this) (fun n hn => hw n (by simp [DataW.weightsEach, hn]))
    refine ⟨(v, v'), ⟨(cs.drop o).take d.sz, cs.drop (o + d.sz), ?_, a, a'⟩, ⟨b, b'⟩, fun y hy p hp => ?_⟩
    · rw [← List.drop_drop, List.take_append_drop]
    · rcases List.mem_cons.1 hy with rfl | hy
      · exact c p hp
      · exact c' y hy p hp⟩
theorem opens_struct {α : Type} {P : Program} {t : TypeId} {fs : Array Field} {d : Kd α} {B : α → Prop} (ht : P.underlying t = some (.struct fs)) (hc : P.cellsOf t = d.sz) (h : OpensEach P fs.toList 0 d B) : Opens P t d B := ⟨fun {H enc W fuel cs x} h1 h2 => by
  obtain ⟨xs, n, _, rfl, hl, hlen, hf⟩ := DataW.trod_struct ht h1
  obtain ⟨v, a, b, c⟩ := h.out (enc := enc) (W := W) (fuel := n) (cs := cs) (xs := xs) (by omega) (by simpa using hlen) (fun i f hi => hf i f (by simpa using hi)) (fun n hn => h2 n (by simpa [DataW.weights, ht] using hn))
  refine ⟨v, by simpa using a, b, fun p hp => ?_⟩
  obtain ⟨y, hy, hp⟩ := List.mem_flatMap.1 hp
  exact c y hy p hp⟩
theorem opens_iso {α β : Type} {P : Program} {t : TypeId} {d : Kd α} {B : α → Prop} (h : Opens P t d B) (f : β → α) (g : α → β) (hfg : ∀ a, f (g a) = a) : Opens P t (Kd.iso d f) (fun b => B (f b)) := ⟨fun {H enc W fuel cs x} h1 h2 => by
  obtain ⟨v, a, b, c⟩ := h.out h1 h2
  exact ⟨g v, by show d.K W (f (g v)) cs; rw [hfg]; exact a, by show B (f (g v)); rw [hfg]; exact b, c⟩⟩
theorem Opens.arg {α : Type} {P : Program} {t : TypeId} {d : Kd α} {B : α → Prop} (h : Opens P t d B) {H : Type} {enc : TypeId × Value → H} {W : World} {v : Value} {x : DataW H} {ps : List MemPlace} (ht : DataW.Trod enc P W 0 (fun _ => true) true t v x ps) (hz : ∀ n ∈ x.weights P t, n ≤ 140737488351232) :
    ∃ y : α, d.K W y v.cells.toList ∧ B y ∧ ∀ p ∈ ps, p.block < W.heap.size := by
  obtain ⟨fuel, hf⟩ := ht
  exact h.out hf hz
theorem wf_i64 {n : Int} (h : (Lit.int .i64 n).wf = true) : -9223372036854775808 ≤ n ∧ n ≤ 9223372036854775807 := by
  simp only [Lit.wf, Bool.and_eq_true, decide_eq_true_eq] at h
  have e1 : IntKind.i64.min = -9223372036854775808 := by decide
  have e2 : IntKind.i64.max = 9223372036854775807 := by decide
  rw [e1, e2] at h
  exact h
end Go.Proofs.YtkikekiokclmdaaDoor.OpenK
