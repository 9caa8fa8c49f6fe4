/- A []string parameter of a law, opened: its reading, its strings' sizes, and where its places lie. -/
import Derived.SliceStrings
import Derived.SizedLaws
import Derived.Carry
import Derived.Test.YtfkikmiajldojaaWWords
set_option linter.unusedVariables false
set_option linter.unusedSimpArgs false
namespace Go.Proofs.Ytfkikmiajldojaa.OpenRow
open Go.ChangeShapes Go.WideShapes Go.RowKit Go.Proofs.YtfkikmiajldojaaW.PrintWords

theorem w_slice {H : Type} {P : Program} {t e : TypeId} {l s : List (DataW H)} (hu : P.underlying t = some (.slice e)) : ∀ n ∈ DataW.weightsAll P e l, n ∈ DataW.weights P t (.slice l s) := by
  intro n hn
  simp [DataW.weights, hu, hn]
theorem w_len {H : Type} {P : Program} {t e : TypeId} {l s : List (DataW H)} (hu : P.underlying t = some (.slice e)) : (l.length + s.length) * P.bytesOf e ∈ DataW.weights P t (.slice l s) := by
  simp [DataW.weights, hu]
theorem w_all {H : Type} {P : Program} {e : TypeId} (L : List ByteArray) : ∀ s ∈ L, s.size ∈ DataW.weightsAll P e (strs L : List (DataW H)) := by
  induction L with
  | nil => simp
  | cons a L ih =>
    intro s hs
    have hsz : a.data.toList.length = a.size := by rw [Array.length_toList]; rfl
    simp only [strs, List.map_cons, DataW.weightsAll, DataW.weights, List.mem_append]
    rcases List.mem_cons.1 hs with rfl | h
    · left; simp [hsz]
    · right; exact ih s h

theorem cell_lt {W : World} {a : Addr} {u : Value} (h : W.cell? a = some u) : a.block < W.heap.size := by
  unfold World.cell? at h
  rcases Nat.lt_or_ge a.block W.heap.size with hl | hl
  · exact hl
  · rw [Array.getElem?_eq_none hl] at h
    cases h

theorem open_names {H : Type} {enc : TypeId × Value → H} {P : Program} {W : World} {t e : TypeId} {v : Value} {d : DataW H} {ps : List MemPlace}
    (ht : P.underlying t = some (.slice e)) (he : P.underlying e = some .string) (hc : P.cellsOf e = 1) (hb : 1 ≤ P.bytesOf e)
    {base : Nat} (hval : Value.okWide P W .any base t v) (h : DataW.Trod enc P W 0 (fun _ => true) true t v d ps) (hz : ∀ n ∈ d.weights P t, n ≤ 140737488351232) :
    ∃ (A : Option Addr) (cap : Nat) (L : List ByteArray), v = .slice A L.length cap ∧ L.length ≤ cap ∧ Kd.C Kd.string W A L.length L ∧ L.length ≤ 140737488351232 ∧ (∀ s ∈ L, s.size ≤ 140737488351232) ∧ (∀ x ∈ ps, x.block < W.heap.size) := by
  obtain ⟨A0, n0, c0, rfl⟩ := okWide_slice ht hval
  obtain ⟨fuel, hf⟩ := h
  rcases open_strings ht he hc hf with ⟨hcs, hx⟩ | ⟨a, len, cap, ss, hcs, _, hl, hm, hsz, hx, hcell, hss⟩
  · cases hx
    have hcs' : [Value.slice A0 n0 c0] = [Value.slice none 0 0] := hcs
    cases hcs'
    exact ⟨none, 0, [], rfl, Nat.le_refl _, ⟨rfl, by decide, fun h => absurd h (by decide)⟩, by decide, fun s hs => (List.not_mem_nil hs).elim, fun x hx => (List.not_mem_nil hx).elim⟩
  · cases hx
    have hcs' : [Value.slice A0 n0 c0] = [Value.slice (some a) len cap] := hcs
    simp only [List.cons.injEq, Value.slice.injEq, and_true] at hcs'
    obtain ⟨rfl, rfl, rfl⟩ := hcs'
    have hss2 : n0 ≤ ss.length := by rw [hsz]; split <;> omega
    have hlen : (ss.take n0).length = n0 := by rw [List.length_take]; omega
    have hw := hz _ (w_len ht)
    have hwn : n0 ≤ 140737488351232 := by
      refine Nat.le_trans ?_ hw
      refine Nat.le_trans ?_ (Nat.le_mul_of_pos_right _ hb)
      simp only [strs, List.length_map]
      omega
    refine ⟨some a, c0, ss.take n0, by rw [hlen], by rw [hlen]; exact hl, ⟨rfl, by rw [hlen]; omega, fun _ => ⟨a, rfl, fun j p hj => ?_⟩⟩, by rw [hlen]; exact hwn, ?_, ?_⟩
    · refine ⟨[.string p], rfl, rfl, fun i u hi => ?_⟩
      have hj2 : j < (ss.take n0).length := (List.getElem?_eq_some_iff.1 hj).1
      have hj3 : ss[j]? = some p := by
        rw [List.getElem?_take] at hj
        rw [if_pos (by omega)] at hj
        exact hj
      have hjs : j < ss.length := (List.getElem?_eq_some_iff.1 hj3).1
      have hg := hcell j hjs
      rw [List.getD_eq_getElem?_getD, hj3] at hg
      cases i with
      | zero =>
        cases hi
        have : j * Kd.string.sz + 0 = j := by show j * 1 + 0 = j; omega
        rw [this]
        exact hg
      | succ i => simp at hi
    · intro s hs
      exact hz _ (w_slice ht _ (w_all _ s hs))
    · intro x hx
      simp only [MemPlace.row, List.mem_map, List.mem_range] at hx
      obtain ⟨i, hi, rfl⟩ := hx
      have q := cell_lt (hcell i hi)
      have e : (a.add i).block = a.block := by unfold Addr.add; split <;> rfl
      rw [e] at q
      exact q
end Go.Proofs.Ytfkikmiajldojaa.OpenRow
