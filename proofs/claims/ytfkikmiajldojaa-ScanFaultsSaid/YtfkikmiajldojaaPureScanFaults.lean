/- ScanFaults in plain words: ahead of a fault the text scans without one; with a blank and anything behind it the fault stands where it stood. -/
import Derived.Test.YtfkikmiajldojaaSfOctroilaw04ScanFaults
import Derived.Test.YtfkikmiajldojaaScanAwake
import Derived.Test.YtfkikmiajldojaaScanMore
set_option linter.unusedVariables false
set_option linter.unusedSimpArgs false
namespace Go.Proofs.Ytfkikmiajldojaa.S
open Go.RowKit Go.Proofs.YtfkikmiajldojaaW.PrintWords Go.Proofs.YtfkikmiajldojaaW.PrintLast Go.Proofs.YtfkikmiajldojaaW.PrintMore Go.Proofs.Ytfkikmiajldojaa.Pure

theorem Sc.err {i : Nat} {l : List UInt8} {ts : List Tk} {e : Option (Nat × Int)} (h : Sc i l ts e) : ∀ p x, e = some (p, x) → x = 2 ∨ x = 30 ∨ x = 40 := by
  induction h with
  | fin _ => intro p x h; cases h
  | bad hg ht => intro p x h; cases h; exact tokL_err ht
  | tok _ _ _ ih => exact ih

theorem lt63 {n : Nat} (h : n ≤ 281474976702465) : n ≤ 9223372036854775807 := Nat.le_trans h (by decide)

theorem wsum3 (s m : ByteArray) (hs : s.size ≤ 140737488351232) (hm : m.size ≤ 140737488351232) : wrap64 ((wrap64 ((s.size : Int) + 1)) + (m.size : Int)) = ((s.size + 1 + m.size : Nat) : Int) := by
  rw [wrap_small (x := (s.size : Int) + 1) (by omega) (by omega), wrap_small (by omega) (by omega)]
  omega

theorem ScanFaults : ∀ (a0 a1 : ByteArray), a0.size ≤ 140737488351232 → a1.size ≤ 140737488351232 → ∃ k, octroilaw04_ScanFaults.f k a0 a1 = some true := by
  intro s m hs hm
  obtain ⟨ts, e, h⟩ := Sc.total 0 (bs s)
  obtain ⟨K0, h0⟩ := awake_on
  obtain ⟨K1, h1⟩ := scan_f s hs h
  by_cases hbig : s.size > 8192
  · obtain ⟨k, hk0, hk1⟩ : ∃ k, K0 ≤ k ∧ K1 ≤ k := ⟨K0 + K1, by omega, by omega⟩
    refine ⟨k + 1 + 1 + 1 + 1, ?_⟩
    obtain ⟨P, hP⟩ : ∃ P : Int, P = 8192 := ⟨_, rfl⟩
    have e1 : scanR s ts e = ([], P, 2) := by unfold scanR; rw [if_pos hbig, hP]
    have hq0 : ¬ (P < 0) := by omega
    have hq : decide (P > (s.size : Int)) = false := decide_eq_false (by omega)
    have hq2 : decide ((s.size : Int) > 8192) = true := decide_eq_true (by omega)
    have hq3 : decide ((s.size : Int) > P) = true := decide_eq_true (by omega)
    have hq4 : (s.size : Int) > 8192 := by omega
    unfold octroilaw04_ScanFaults.f
    rw [h0 _ (by omega), Option.bind_some, if_pos rfl, h1 _ (by omega), e1, Option.bind_some]
    show (if (2 : Int) = 0 then _ else if P < 0 then _ else octroilaw04_ScanFaults.j0 (k + 1 + 1 + 1 + 1) s m [] P 2 (decide (P > (s.size : Int)))) = some true
    rw [if_neg (by decide), if_neg hq0, hq]
    simp only [octroilaw04_ScanFaults.j0]
    rw [if_neg (by simp), if_pos (by rfl), if_pos trivial, if_pos hP, hq2, hq3]
    rw [show (true != true) = false from rfl]
    simp only [octroilaw04_ScanFaults.j1]
    rw [if_neg (by simp), if_pos hq4]
    simp only [octroilaw04_ScanFaults.j2]
    rw [if_pos trivial]
  cases e with
  | none =>
    obtain ⟨k, hk0, hk1⟩ : ∃ k, K0 ≤ k ∧ K1 ≤ k := ⟨K0 + K1, by omega, by omega⟩
    refine ⟨k + 1 + 1 + 1, ?_⟩
    have e1 : scanR s ts none = ([] ++ ts.map toS, 0, 0) := by unfold scanR; rw [if_neg hbig]; rfl
    unfold octroilaw04_ScanFaults.f
    rw [h0 _ (by omega)]
    simp only [Option.bind_some, if_true]
    rw [h1 _ (by omega), e1]
    simp only [Option.bind_some, octroilaw04_ScanFaults.j0]
    simp
  | some px =>
    obtain ⟨p, x⟩ := px
    have e1 : scanR s ts (some (p, x)) = ([], (p : Int), x) := by unfold scanR; rw [if_neg hbig]; rfl
    have hx := Sc.err h p x rfl
    obtain ⟨_, hp, ts', hahead⟩ := Sc.ahead h p x rfl
    rw [bs_len, Nat.zero_add] at hp
    rw [Nat.sub_zero, ← bs_upto] at hahead
    have hbeh := Sc.behind (m := (32 : UInt8) :: bs m) h (fun c r hc => by cases hc; exact ⟨by decide, by decide⟩) (p, x) rfl
    have hcat : bs ((s ++ (⟨#[32]⟩ : ByteArray)) ++ m) = bs s ++ ((32 : UInt8) :: bs m) := by
      simp only [bs]
      rw [ByteArray.data_append, ByteArray.data_append, Array.toList_append, Array.toList_append, List.append_assoc]
      rfl
    rw [← hcat] at hbeh
    have hsz1 : (s ++ (⟨#[32]⟩ : ByteArray)).size = s.size + 1 := by rw [ByteArray.size_append]; rfl
    have hsz : ((s ++ (⟨#[32]⟩ : ByteArray)) ++ m).size = s.size + 1 + m.size := by rw [ByteArray.size_append, hsz1]
    have hszp : (s.extract 0 p).size = p := by rw [← bs_len, bs_upto, List.length_take, bs_len]; omega
    obtain ⟨K2, h2⟩ := scan_f (s.extract 0 p) (by omega) hahead
    have e2 : scanR (s.extract 0 p) ts' none = ([] ++ ts'.map toS, 0, 0) := by unfold scanR; rw [if_neg (by omega)]; rfl
    by_cases hmb : m.size > 8192
    · obtain ⟨k, hk0, hk1⟩ : ∃ k, K0 ≤ k ∧ K1 ≤ k := ⟨K0 + K1, by omega, by omega⟩
      refine ⟨k + 1 + 1 + 1 + 1, ?_⟩
      unfold octroilaw04_ScanFaults.f
      rw [h0 _ (by omega)]
      simp only [Option.bind_some, if_true]
      rw [h1 _ (by omega), e1]
      simp only [Option.bind_some]
      have q1 : ¬ ((p : Int) < 0) := by omega
      have q2 : decide ((p : Int) > (s.size : Int)) = false := decide_eq_false (by omega)
      have q3 : decide ((s.size : Int) > 8192) = false := decide_eq_false (by omega)
      have q4 : decide ((s.size : Int) > (p : Int)) = true := decide_eq_true (by omega)
      have q5 : ¬ ((p : Int) = 8192) := by omega
      have q6 : ¬ ((s.size : Int) > 8192) := by omega
      have q7 : decide ((m.size : Int) > 8192) = true := decide_eq_true (by omega)
      rw [if_neg (by omega), if_neg q1, q2]
      simp only [octroilaw04_ScanFaults.j0, octroilaw04_ScanFaults.j1, octroilaw04_ScanFaults.j2]
      rw [q3, if_neg q5, q7]
      rcases hx with rfl | rfl | rfl <;> simp <;> omega
    · obtain ⟨K3, h3⟩ := scan_f ((s ++ (⟨#[32]⟩ : ByteArray)) ++ m) (by omega) hbeh
      obtain ⟨k, hk0, hk1, hk2, hk3⟩ : ∃ k, K0 ≤ k ∧ K1 ≤ k ∧ K2 ≤ k ∧ K3 ≤ k := ⟨K0 + K1 + K2 + K3, by omega, by omega, by omega, by omega⟩
      refine ⟨k + 1 + 1 + 1, ?_⟩
      unfold octroilaw04_ScanFaults.f
      rw [h0 _ (by omega)]
      simp only [Option.bind_some, if_true]
      rw [h1 _ (by omega), e1]
      simp only [Option.bind_some]
      have q1 : ¬ ((p : Int) < 0) := by omega
      have q2 : decide ((p : Int) > (s.size : Int)) = false := decide_eq_false (by omega)
      have q3 : decide ((s.size : Int) > 8192) = false := decide_eq_false (by omega)
      have q5 : ¬ ((p : Int) = 8192) := by omega
      have q6 : ¬ ((s.size : Int) > 8192) := by omega
      have q7 : decide ((m.size : Int) > 8192) = false := decide_eq_false (by omega)
      have r1 : (0 : Int) ≤ (p : Int) := Int.natCast_nonneg p
      have r2 : (p : Int) ≤ (s.size : Int) := by omega
      have r3 : s.size + 1 ≤ 9223372036854775807 := lt63 (by omega)
      have r4 : (s ++ (⟨#[32]⟩ : ByteArray)).size + m.size ≤ 9223372036854775807 := by rw [hsz1]; exact lt63 (by omega)
      have hj2 : octroilaw04_ScanFaults.j2 (k + 1) s m (p : Int) x false = some true := by
        simp only [octroilaw04_ScanFaults.j2]
        rw [if_neg (by simp), if_pos r1, if_pos r2, Int.toNat_natCast, h2 k hk2, e2]
        simp only [Option.bind_some]
        rw [if_pos r3, if_pos r4, h3 k hk3, wsum3 s m hs hm]
        simp only [Option.bind_some, if_true]
        by_cases hl : s.size + 1 + m.size > 8192
        · have e3 : scanR ((s ++ (⟨#[32]⟩ : ByteArray)) ++ m) ts (some (p, x)) = ([], 8192, 2) := by unfold scanR; rw [if_pos (by omega)]
          rw [if_pos (by omega), e3]
          rfl
        · have e3 : scanR ((s ++ (⟨#[32]⟩ : ByteArray)) ++ m) ts (some (p, x)) = ([], (p : Int), x) := by unfold scanR; rw [if_neg (by omega)]; rfl
          rw [if_neg (by omega), e3, if_pos rfl]
          simp
      have hj1 : octroilaw04_ScanFaults.j1 (k + 1 + 1) s m (p : Int) x false = some true := by
        simp only [octroilaw04_ScanFaults.j1]
        rw [if_neg (by simp), if_neg q6, q7]
        exact hj2
      rw [if_neg (by omega), if_neg q1, q2]
      simp only [octroilaw04_ScanFaults.j0]
      rw [if_neg (by simp), if_pos (by rfl), q3, if_neg q5]
      rw [show (false != false) = false from rfl]
      by_cases h2x : x = 2
      · rw [if_pos h2x]; exact hj1
      · rw [if_neg h2x]; exact hj1
end Go.Proofs.Ytfkikmiajldojaa.S
