/- ScanTokens in plain words: of every text the program's scan and the reference's are the same. -/
import Derived.Test.YtfkikmiajldojaaSfOctroilaw04ScanTokens
import Derived.Test.YtfkikmiajldojaaScanAwake
import Derived.Test.YtfkikmiajldojaaScanRef
set_option linter.unusedVariables false
set_option linter.unusedSimpArgs false
namespace Go.Proofs.Ytfkikmiajldojaa.S
open Go.RowKit Go.Proofs.YtfkikmiajldojaaW.PrintWords Go.Proofs.YtfkikmiajldojaaW.PrintLast Go.Proofs.YtfkikmiajldojaaW.PrintMore Go.Proofs.Ytfkikmiajldojaa.Pure

theorem scanR_len {s : ByteArray} {ts : List Tk} {e : Option (Nat × Int)} : (scanR s ts e).1.length ≤ ts.length := by
  unfold scanR
  split
  · simp
  · cases e with
    | none => simp [resOf]
    | some p => obtain ⟨p, e⟩ := p; simp [resOf]

theorem Sc.length_le {i : Nat} {l : List UInt8} {ts : List Tk} {e : Option (Nat × Int)} (h : Sc i l ts e) : ts.length ≤ l.length + 1 := by
  induction h with
  | fin _ => simp
  | bad _ _ => simp
  | @tok i l c ts e h ht hs ih =>
    have hc := tokL_len ht
    rw [List.length_drop] at hc ih
    simp only [List.length_cons]
    omega

theorem ScanTokens : ∀ (a0 : ByteArray), a0.size ≤ 140737488351232 → ∃ k, octroilaw04_ScanTokens.f k a0 = some true := by
  intro s hs
  obtain ⟨ts, e, h⟩ := Sc.total 0 (bs s)
  obtain ⟨K0, h0⟩ := awake_on
  obtain ⟨K1, h1⟩ := scan_f s hs h
  obtain ⟨K2, h2⟩ := ref_f s hs h
  have hl := Sc.length_le h
  have hl2 := scanR_len (s := s) (ts := ts) (e := e)
  rw [bs_len] at hl
  refine ⟨K0 + K1 + K2 + s.size + 3, ?_⟩
  have h3 := same_f (scanR s ts e).1 (by omega) (K0 + K1 + K2 + s.size + 3) (by omega)
  unfold octroilaw04_ScanTokens.f
  rw [h0 _ (by omega)]
  simp only [Option.bind_some, if_true]
  rw [h1 _ (by omega)]
  simp only [Option.bind_some]
  rw [h2 _ (by omega)]
  simp only [Option.bind_some, if_true]
  rw [h3]
  rfl
end Go.Proofs.Ytfkikmiajldojaa.S
