/- The five fixed answers that each scan law asks first are as the document says. -/
import Derived.Test.YtfkikmiajldojaaSfOctroilaw04Awake
import Derived.Test.YtfkikmiajldojaaScanImpl
set_option linter.unusedVariables false
set_option linter.unusedSimpArgs false
namespace Go.Proofs.Ytfkikmiajldojaa.S
open Go.RowKit Go.Proofs.YtfkikmiajldojaaW.PrintWords Go.Proofs.YtfkikmiajldojaaW.PrintLast Go.Proofs.YtfkikmiajldojaaW.PrintMore Go.Proofs.Ytfkikmiajldojaa.Pure

set_option maxRecDepth 100000 in
theorem awake_at : octroilaw04_awake.f 40 = some true := by decide +kernel
theorem awake_on : ∃ K, ∀ k, K ≤ k → octroilaw04_awake.f k = some true :=
  ⟨40, fun k hk => at_rounds (g := fun k => octroilaw04_awake.f k) octroilaw04_awake.mono hk awake_at⟩

theorem same_l0 (l : List S) (hl : l.length ≤ 9223372036854775807) (d : Nat) : ∀ (k i : Nat), i ≤ l.length → l.length - i ≤ d → d < k → octroilaw04_same.l0 k l l i = some true := by
  induction d with
  | zero =>
    intro k i h0 h1 hk
    obtain ⟨k, rfl⟩ : ∃ m, k = m + 1 := ⟨k - 1, by omega⟩
    simp only [octroilaw04_same.l0]
    rw [if_neg (by omega)]
  | succ d ih =>
    intro k i h0 h1 hk
    obtain ⟨k, rfl⟩ : ∃ m, k = m + 1 := ⟨k - 1, by omega⟩
    rcases Nat.lt_or_ge i l.length with hlt | hge
    · have hnext := ih k (i + 1) (by omega) (by omega) (by omega)
      have hw : wrap64 ((i : Int) + 1) = ((i + 1 : Nat) : Int) := by rw [wrap_small (by omega) (by omega)]; omega
      simp only [octroilaw04_same.l0]
      rw [if_pos (Int.ofNat_lt.2 hlt), if_pos (Int.natCast_nonneg _), if_pos (Int.ofNat_lt.2 hlt), hw, hnext]
      simp
    · simp only [octroilaw04_same.l0]
      rw [if_neg (by omega)]
theorem same_f (l : List S) (hl : l.length ≤ 9223372036854775807) (k : Nat) (hk : l.length < k) : octroilaw04_same.f k l l = some true := by
  unfold octroilaw04_same.f
  rw [if_pos rfl]
  exact same_l0 l hl l.length k 0 (by omega) (by omega) hk
theorem Sc.err {i : Nat} {l : List UInt8} {ts : List Tk} {e : Option (Nat × Int)} (h : Sc i l ts e) : ∀ p x, e = some (p, x) → x = 2 ∨ x = 30 ∨ x = 40 := by
  induction h with
  | fin _ => intro p x h; cases h
  | bad hg ht => intro p x h; cases h; exact tokL_err ht
  | tok _ _ _ ih => exact ih

end Go.Proofs.Ytfkikmiajldojaa.S
