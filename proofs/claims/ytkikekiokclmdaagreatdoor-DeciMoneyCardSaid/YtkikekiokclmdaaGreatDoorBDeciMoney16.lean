/- What the proof needs, part 16 of 18. DeciMoney answers true for every list of numbers and every list of strings; the input reads as it did. -/
import Derived.Deep.Slices
import Derived.SizedLaws
import Derived.Carry
import Derived.WideShapes
import Derived.Test.YtkikekiokclmdaaGreatDoorBDeciMoney1
set_option linter.unusedVariables false
set_option linter.unusedSimpArgs false
namespace Go.Proofs.YtkikekiokclmdaaGreatDoor.OpenK
open Go.ChangeShapes Go.WideShapes Go.RowKit Go.Deep Go.Proofs.YtkikekiokclmdaaGreatDoorW.PrintWords
structure Opens {α : Type} (P : Program) (t : TypeId) (d : Kd α) (B : α → Prop) : Prop where
  out : ∀ {H : Type} {enc : TypeId × Value → H} {W : World} {fuel : Nat} {cs : List Value} {x : DataW H × List MemPlace}, DataW.trod enc P W 0 (fun _ => true) true fuel t cs = some x → (∀ n ∈ x.1.weights P t, n ≤ 140737488351232) →
    ∃ v : α, d.K W v cs ∧ B v ∧ ∀ p ∈ x.2, p.block < W.heap.size
theorem Opens.mono {α : Type} {P : Program} {t : TypeId} {d : Kd α} {B B' : α → Prop} (h : Opens P t d B) (hB : ∀ v, B v → B' v) : Opens P t d B' := ⟨fun h1 h2 => by
  obtain ⟨v, a, b, c⟩ := h.out h1 h2
  exact ⟨v, a, hB v b, c⟩⟩
theorem cell_lt {W : World} {a : Addr} {u : Value} (h : W.cell? a = some u) : a.block < W.heap.size := World.block_lt_of_cell? W a h
theorem opens_int {P : Program} {t : TypeId} {k : IntKind} (ht : P.underlying t = some (.int k)) : Opens P t (Kd.int k) (fun n => (Lit.int k n).wf = true) := ⟨fun {H enc W fuel cs x} h1 h2 => by
  cases fuel with
  | zero => simp [DataW.trod] at h1
  | succ m =>
    unfold DataW.trod at h1
    rw [ht] at h1
    match cs, h1 with
    | [.int k' n], h1 =>
      simp only at h1
      split at h1
      · rename_i hk
        obtain ⟨rfl, hw⟩ := hk
        cases h1
        exact ⟨n, rfl, hw, fun p hp => (List.not_mem_nil hp).elim⟩
      · cases h1⟩
theorem opens_string {P : Program} {t : TypeId} (ht : P.underlying t = some .string) : Opens P t Kd.string (fun s => s.size ≤ 140737488351232) := ⟨fun {H enc W fuel cs x} h1 h2 => by
  cases fuel with
  | zero => simp [DataW.trod] at h1
  | succ m =>
    unfold DataW.trod at h1
    rw [ht] at h1
    match cs, h1 with
    | [.string s], h1 =>
      simp only at h1
      split at h1
      · cases h1
        have hz := h2 s.data.toList.length (by simp [DataW.weights])
        rw [Array.length_toList] at hz
        exact ⟨s, rfl, hz, fun p hp => (List.not_mem_nil hp).elim⟩
      · cases h1⟩
theorem mem_weightsAll {H : Type} {P : Program} {e : TypeId} {l : List (DataW H)} {d : DataW H} (hd : d ∈ l) : ∀ n ∈ d.weights P e, n ∈ DataW.weightsAll P e l := by
  induction l with
  | nil => cases hd
  | cons a l ih =>
    intro n hn
    simp only [DataW.weightsAll, List.mem_append]
    rcases List.mem_cons.1 hd with rfl | h
    · exact .inl hn
    · exact .inr (ih h n hn)
theorem opens_slice {α : Type} {P : Program} {t e : TypeId} {d : Kd α} {B : α → Prop} (ht : P.underlying t = some (.slice e)) (he : Opens P e d B) (hc : P.cellsOf e = d.sz) (hs : 0 < d.sz) (hb : 0 < P.bytesOf e) :
    Opens P t (Kd.slice e d) (fun l => l.length * P.bytesOf e ≤ 140737488351232 ∧ ∀ x ∈ l, B x) := ⟨fun {H enc W fuel cs x} h1 h2 => by
  rcases open_slice ht h1 with ⟨rfl, rfl⟩ | ⟨a, len, cap, m, n, D, Pl, rfl, _, hl, hm, hmm, rfl, hel⟩
  · exact ⟨[], ⟨none, 0, rfl, Nat.le_refl _, rfl, Nat.zero_le _, fun h => absurd h (Nat.lt_irrefl 0)⟩, ⟨by simp, fun x hx => (List.not_mem_nil hx).elim⟩, fun p hp => (List.not_mem_nil hp).elim⟩
  · have hm' : m = cap := by rw [hmm]; simp
    subst hm'
    have hw : ∀ i, i < m → ∀ q ∈ (D i).weights P e, q ≤ 140737488351232 := by
      intro i hi q hq
      refine h2 q ?_
      simp only [DataW.weights, ht, List.mem_cons, List.mem_append]
      rcases Nat.lt_or_ge i len with h | h
      · exact .inr (.inl (mem_weightsAll (List.mem_map.2 ⟨i, List.mem_range.2 h, rfl⟩) q hq))
      · exact .inr (.inr (mem_weightsAll (List.mem_map.2 ⟨i - len, List.mem_range.2 (by omega), by rw [show len + (i - len) = i by omega]⟩) q hq))
    have key : ∀ i, i < m → ∃ v : α × List Value, W.cells? 0 (a.add (i * P.cellsOf e)) (P.cellsOf e) = some v.2 ∧ d.K W v.1 v.2 ∧ B v.1 ∧ ∀ p ∈ Pl i, p.block < W.heap.size := by
      intro i hi
      obtain ⟨cs', h3, h4⟩ := hel i hi
      obtain ⟨v, h5, h6, h7⟩ := he.out h4 (hw i hi)
      exact ⟨(v, cs'), h3, h5, h6, h7⟩
    have hsz : len * P.bytesOf e ≤ 140737488351232 := by
      have h5 : (len + (m - len)) * P.bytesOf e ≤ 140737488351232 := h2 _ (by simp [DataW.weights, ht])
      exact Nat.le_trans (Nat.mul_le_mul_right _ (by omega)) h5
    have hlm : len ≤ 140737488351232 := Nat.le_trans (Nat.le_mul_of_pos_right _ hb) hsz
    have hplaces : ∀ p ∈ MemPlace.row a (m * P.cellsOf e) ++ (List.range m).flatMap Pl, p.block < W.heap.size := by
      intro p hp
      rcases List.mem_append.1 hp with hp | hp
      · simp only [MemPlace.row, List.mem_map, List.mem_range] at hp
        obtain ⟨i, hi, rfl⟩ := hp
        have hpos : 0 < P.cellsOf e := by omega
        have him : i / P.cellsOf e < m := (Nat.div_lt_iff_lt_mul hpos).2 hi
        obtain ⟨v, h3, _⟩ := key _ him
        obtain ⟨_, hlen, hcell⟩ := World.cells?_some h3
        have h4 := hcell 0 hpos
        have hlt := cell_lt (a := (a.add (i / P.cellsOf e * P.cellsOf e)).add 0) (u := v.2[0]'(by omega)) (by rw [h4, List.getElem?_eq_getElem (by omega)])
        have e1 : ∀ (b : Addr) (j : Nat), (b.add j).block = b.block := by intro b j; unfold Addr.add; split <;> rfl
        rw [e1, e1] at hlt
        exact hlt
      · obtain ⟨i, hi, hp⟩ := List.mem_flatMap.1 hp
        obtain ⟨v, _, _, _, h7⟩ := key i (List.mem_range.1 hi)
        exact h7 p hp
    rcases Nat.eq_zero_or_pos m with h0 | h0
    · have hl0 : len = 0 := by omega
      subst hl0
      exact ⟨[], ⟨some a, m, rfl, Nat.zero_le _, rfl, Nat.zero_le _, fun h => absurd h (Nat.lt_irrefl 0)⟩, ⟨by simp, fun x hx => (List.not_mem_nil hx).elim⟩, hplaces⟩
    · obtain ⟨v0, _⟩ := key 0 h0
      haveI : Inhabited (α × List Value) := ⟨v0⟩
      obtain ⟨F, hF⟩ := choose_lt key
      refine ⟨(List.range len).map fun i => (F i).1, ⟨some a, m, by simp, by simpa using hl, ?_⟩, ⟨by simpa using hsz, ?_⟩, hplaces⟩
      · refine ⟨by simp, by simp; omega, fun _ => ⟨a, rfl, fun j p hj => ?_⟩⟩
        have hj2 : j < len := by
          have := (List.getElem?_eq_some_iff.1 hj).1
          simpa using this
        have hp : p = (F j).1 := by
          rw [List.getElem?_map, List.getElem?_range hj2] at hj
          simpa using hj.symm
        subst hp
        obtain ⟨h3, h4, _⟩ := hF j (by omega)
        obtain ⟨_, hlen, hcell⟩ := World.cells?_some h3
        refine ⟨(F j).2, d.K_len h4, h4, fun i u hu => ?_⟩
        have hi : i < P.cellsOf e := by
          have := (List.getElem?_eq_some_iff.1 hu).1
          omega
        have h5 := hcell i hi
        rw [hu, Deep.add_add] at h5
        rw [← hc]
        exact h5
      · intro x hx
        obtain ⟨i, hi, rfl⟩ := List.mem_map.1 hx
        exact (hF i (by have := List.mem_range.1 hi; omega)).2.2.1⟩
theorem Opens.arg {α : Type} {P : Program} {t : TypeId} {d : Kd α} {B : α → Prop} (h : Opens P t d B) {H : Type} {enc : TypeId × Value → H} {W : World} {v : Value} {x : DataW H} {ps : List MemPlace} (ht : DataW.Trod enc P W 0 (fun _ => true) true t v x ps) (hz : ∀ n ∈ x.weights P t, n ≤ 140737488351232) :
    ∃ y : α, d.K W y v.cells.toList ∧ B y ∧ ∀ p ∈ ps, p.block < W.heap.size := by
  obtain ⟨fuel, hf⟩ := ht
  exact h.out hf hz
theorem wf_i64 {n : Int} (h : (Lit.int .i64 n).wf = true) : -9223372036854775808 ≤ n ∧ n ≤ 9223372036854775807 := by
  simp only [Lit.wf, Bool.and_eq_true, decide_eq_true_eq] at h
  have e1 : IntKind.i64.min = -9223372036854775808 := by decide
  have e2 : IntKind.i64.max = 9223372036854775807 := by decide
  rw [e1, e2] at h
  exact h
end Go.Proofs.YtkikekiokclmdaaGreatDoor.OpenK
