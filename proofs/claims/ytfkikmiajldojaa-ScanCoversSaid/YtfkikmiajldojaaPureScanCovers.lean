/- ScanCovers in plain words: tokens follow one another, between them stand gaps alone, and each by itself is that token. -/
import Derived.Test.YtfkikmiajldojaaSfOctroilaw04ScanCovers
import Derived.Test.YtfkikmiajldojaaScanAwake
import Derived.Test.YtfkikmiajldojaaScanMore
set_option linter.unusedVariables false
set_option linter.unusedSimpArgs false
namespace Go.Proofs.Ytfkikmiajldojaa.S
open Go.RowKit Go.Proofs.YtfkikmiajldojaaW.PrintWords Go.Proofs.YtfkikmiajldojaaW.PrintLast Go.Proofs.YtfkikmiajldojaaW.PrintMore Go.Proofs.Ytfkikmiajldojaa.Pure

theorem lawgap_l0 (s : ByteArray) (hs : s.size ≤ 140737488351232) (d : Nat) : ∀ (k i : Nat) (b : Bool), i ≤ s.size → s.size - i ≤ d → 2 * d + 1 < k → gapL b ((bs s).drop i) = s.size - i →
    octroilaw04_gap.l0 k s b i = some true := by
  induction d with
  | zero =>
    intro k i b h0 h1 hk hg
    obtain ⟨k, rfl⟩ : ∃ m, k = m + 1 := ⟨k - 1, by omega⟩
    simp only [octroilaw04_gap.l0]
    rw [if_neg (by omega)]
  | succ d ih =>
    intro k i b h0 h1 hk hg
    obtain ⟨k, rfl⟩ : ∃ m, k = m + 1 := ⟨k - 1, by omega⟩
    rcases Nat.lt_or_ge i s.size with hlt | hge
    · obtain ⟨k, rfl⟩ : ∃ m, k = m + 1 := ⟨k - 1, by omega⟩
      have hnext := fun b' h' => ih k (i + 1) b' (by omega) (by omega) (by omega) h'
      have hw : wrap64 ((i : Int) + 1) = ((i + 1 : Nat) : Int) := by rw [wrap_small (by omega) (by omega)]; omega
      have r0 : (i : Int) < (s.size : Int) := Int.ofNat_lt.2 hlt
      have r1 : (0 : Int) ≤ (i : Int) := Int.natCast_nonneg _
      have hb := bt_nat s i hlt
      obtain ⟨r, hr, hr2⟩ := bt_drop s i hlt
      rw [hr] at hg
      generalize hc : (bs s)[i]'(by rw [bs_len]; exact hlt) = c at hb hg
      have hcn : ∀ (n : UInt8) (v : Int), (n.toNat : Int) = v → ¬ c = n → ¬ ((c.toNat : Int) = v) := by
        intro n v hv hn he
        apply hn
        exact UInt8.toNat_inj.1 (by omega)
      simp only [octroilaw04_gap.l0]
      rw [if_pos r0, if_pos r1, hb]
      simp only [octroilaw04_gap.j1]
      rw [hb, hw]
      have hend : ∀ b', gapL b' r + 1 = s.size - i → octroilaw04_gap.l0 k s b' ((i + 1 : Nat) : Int) = some true := by
        intro b' h'
        apply hnext
        rw [← hr2]
        omega
      clear hw hnext ih
      by_cases h35 : c = 35
      · subst h35
        have : octroilaw04_gap.l0 k s true ((i + 1 : Nat) : Int) = some true := by
          apply hend
          cases b <;> exact hg
        rw [if_pos (by decide), if_pos r1, if_pos r0, if_neg (by decide), if_pos trivial]
        exact this
      · rw [if_neg (hcn 35 35 rfl h35), if_pos r1, if_pos r0]
        by_cases h10 : c = 10
        · subst h10
          have : octroilaw04_gap.l0 k s false ((i + 1 : Nat) : Int) = some true := by
            apply hend
            cases b <;> exact hg
          rw [if_pos (by decide), if_neg (by decide), if_neg (by decide)]
          exact this
        · rw [if_neg (hcn 10 10 rfl h10)]
          cases b with
          | true =>
            rw [if_pos rfl]
            apply hend
            have : (c != 10) = true := by simpa using h10
            simp only [gapL, this] at hg
            exact hg
          | false =>
            rw [if_neg (by decide)]
            simp only [gapL] at hg
            rw [if_neg (by simpa using h35)] at hg
            by_cases hbl : isBlank c = true
            · rw [if_pos hbl] at hg
              have := hend false hg
              rw [this]
              simp only [isBlank, Bool.or_eq_true, beq_iff_eq] at hbl
              by_cases h32 : c = 32
              · subst h32; rw [if_pos (by decide)]
              · rw [if_neg (hcn 32 32 rfl h32)]
                by_cases h9 : c = 9
                · subst h9; rw [if_pos (by decide)]
                · rw [if_neg (hcn 9 9 rfl h9)]
                  have : c = 13 := by
                    rcases hbl with ((h | h) | h) | h
                    · exact absurd h h32
                    · exact absurd h h9
                    · exact absurd h h10
                    · exact h
                  subst this; rw [if_pos (by decide)]
            · rw [if_neg hbl] at hg
              omega
    · simp only [octroilaw04_gap.l0]
      rw [if_neg (by omega)]

theorem lawgap_f (s : ByteArray) (hs : s.size ≤ 140737488351232) (h : gapL false (bs s) = (bs s).length) (k : Nat) (hk : 2 * s.size + 1 < k) : octroilaw04_gap.f k s = some true := by
  unfold octroilaw04_gap.f
  exact lawgap_l0 s hs s.size k 0 false (by omega) (by omega) hk (by rw [List.drop_zero, h, bs_len]; omega)

theorem tokL_kind {l : List UInt8} {c : Cut} (h : tokL l = .ok c) : c.kind ≠ 0 := by
  cases l with
  | nil => simp [tokL] at h
  | cons a r =>
    simp only [tokL] at h
    repeat' split at h
    all_goals first | (cases h; done) | (cases h; simp)

theorem drop_at {L : List S} {j : Nat} {a : S} {r : List S} (h : L.drop j = a :: r) : rd_T32 L (j : Int) = a ∧ L.length = j + 1 + r.length ∧ L.drop (j + 1) = r := by
  have hj : L.length - j = r.length + 1 := by have := congrArg List.length h; simpa using this
  refine ⟨?_, by omega, ?_⟩
  · have hg : L[j]? = some a := by
      have : (L.drop j)[0]? = some a := by rw [h]; rfl
      rw [List.getElem?_drop] at this
      simpa using this
    rw [rd_T32, Int.toNat_natCast, List.getD_eq_getElem?_getD, hg]
    rfl
  · rw [← List.drop_drop, h]; rfl

theorem w_sub1 {n m : Nat} (h : n = m + 1) (hb : n ≤ 100000) : wrap64 ((n : Int) - 1) = (m : Int) := by rw [wrap_small (by omega) (by omega)]; omega
theorem w_add1 {n : Nat} (hb : n ≤ 100000) : wrap64 ((n : Int) + 1) = ((n + 1 : Nat) : Int) := by rw [wrap_small (by omega) (by omega)]; omega
theorem w_subp {p c : Nat} (hb : p + c ≤ 100000) : wrap64 (((p + c : Nat) : Int) - (p : Int)) = (c : Int) := by rw [wrap_small (by omega) (by omega)]; omega

theorem covers_l0 (s : ByteArray) (hs : s.size ≤ 8192) (L : List S) (hL : L.length ≤ 8193) {i : Nat} {l : List UInt8} {ts : List Tk} {e : Option (Nat × Int)} (h : Sc i l ts e) :
    e = none → l = (bs s).drop i → i ≤ s.size → ∀ j : Nat, L.drop j = ts.map toS → ∃ K, ∀ k, K ≤ k → octroilaw04_ScanCovers.l0 k s L (i : Int) (j : Int) = some true := by
  induction h with
  | bad _ _ => intro he; cases he
  | @fin i l hg =>
    intro _ hl hi j hj
    have hlen : l.length = s.size - i := by rw [hl, List.length_drop, bs_len]
    obtain ⟨ha, hb, hc⟩ := drop_at hj
    have hb : L.length = j + 1 := by simpa using hb
    have hsz : (s.extract i s.size).size = s.size - i := size_from s i hi
    refine ⟨2 * s.size + 9, fun k hk => ?_⟩
    obtain ⟨k, rfl⟩ : ∃ m, k = m + 1 + 1 + 1 := ⟨k - 3, by omega⟩
    have hgf := lawgap_f (s.extract i s.size) (by omega) (by rw [bs_from, ← hl]; exact hg) (k + 1 + 1) (by omega)
    have he1 : (toS ⟨0, 0, [], i + l.length, i + l.length⟩) = ⟨0, 0, ⟨#[]⟩, (s.size : Int), (s.size : Int)⟩ := by
      rw [show i + l.length = s.size by omega]; rfl
    rw [he1] at ha
    have b1 : L.length ≤ 100000 := by omega
    have b2 : j ≤ 100000 := by omega
    have r0 : (j : Int) < (L.length : Int) := by omega
    have r1 : (0 : Int) ≤ (j : Int) := Int.natCast_nonneg _
    have r2 : ¬ ((s.size : Int) < (i : Int)) := by omega
    have r3 : ¬ ((s.size : Int) < (s.size : Int)) := Int.lt_irrefl _
    have r4 : ¬ ((s.size : Int) > (s.size : Int)) := Int.lt_irrefl _
    have r5 : (0 : Int) ≤ (i : Int) := Int.natCast_nonneg _
    have r6 : (i : Int) ≤ (s.size : Int) := by omega
    have r7 : (s.size : Int) ≤ (s.size : Int) := Int.le_refl _
    have r8 : ¬ (((j + 1 : Nat) : Int) < (L.length : Int)) := by omega
    have w1 := w_sub1 hb b1
    have w2 := w_add1 b2
    simp only [octroilaw04_ScanCovers.l0]
    rw [ha]
    dsimp only
    rw [if_pos r0, if_pos r1, if_neg r2, if_neg r3, if_neg r4, if_pos r5, if_pos r6, if_pos r7, Int.toNat_natCast, Int.toNat_natCast, hgf, w1]
    rw [Option.bind_some, if_pos rfl]
    have hq : (((0 : Int) == 0) != ((j : Int) == (j : Int))) = false := by simp
    rw [hq]
    simp only [octroilaw04_ScanCovers.j2]
    rw [if_neg (by decide), if_pos trivial, w2]
    simp only [octroilaw04_ScanCovers.l0]
    rw [if_neg r8]
    simp
  | @tok i l c ts e hg ht hs' ih =>
    intro he hl hi j hj
    subst he
    have hlen : l.length = s.size - i := by rw [hl, List.length_drop, bs_len]
    have hc := tokL_len ht
    rw [List.length_drop] at hc
    obtain ⟨ha, hb, hd⟩ := drop_at hj
    obtain ⟨K, hK⟩ := ih rfl (by rw [hl, List.drop_drop]; congr 1; omega) (by omega) (j + 1) hd
    have hts : 0 < ts.length := by cases hs' <;> simp
    have hb : L.length = j + 1 + ts.length := by simpa using hb
    -- the gap ahead of the token
    have hg1 : bs (s.extract i (i + gapL false l)) = l.take (gapL false l) := by
      rw [bs_extract, hl, List.drop_take]; congr 1; omega
    have hsz1 : (s.extract i (i + gapL false l)).size = gapL false l := by rw [← bs_len, hg1, List.length_take]; omega
    -- the token by itself
    have hg2 : bs (s.extract (i + gapL false l) (i + gapL false l + c.len)) = (l.drop (gapL false l)).take c.len := by
      rw [bs_extract, hl, List.drop_take, List.drop_drop]; congr 1; omega
    have hsz2 : (s.extract (i + gapL false l) (i + gapL false l + c.len)).size = c.len := by rw [← bs_len, hg2, List.length_take, List.length_drop]; omega
    have ht2 := tokL_cut ht (Nat.le_refl c.len)
    have hg3 := tok_gap ht2
    have hl2 : ((l.drop (gapL false l)).take c.len).length = c.len := by rw [List.length_take, List.length_drop]; omega
    have hsc : Sc 0 (bs (s.extract (i + gapL false l) (i + gapL false l + c.len))) [⟨c.kind, c.num, c.text, 0, c.len⟩, ⟨0, 0, [], c.len, c.len⟩] none := by
      rw [hg2]
      have hnil : ((l.drop (gapL false l)).take c.len).drop (gapL false ((l.drop (gapL false l)).take c.len) + c.len) = [] := by
        rw [hg3, Nat.zero_add]; exact List.drop_of_length_le (by omega)
      have h2 := Sc.fin (i := 0 + gapL false ((l.drop (gapL false l)).take c.len) + c.len) (l := ((l.drop (gapL false l)).take c.len).drop (gapL false ((l.drop (gapL false l)).take c.len) + c.len)) (by rw [hnil]; rfl)
      have h1 := Sc.tok (i := 0) (l := (l.drop (gapL false l)).take c.len) (c := c) (by rw [hg3]; omega) (by rw [hg3]; exact ht2) h2
      rw [hnil] at h1
      rw [hg3] at h1
      simpa using h1
    obtain ⟨K2, hK2⟩ := scan_f (s.extract (i + gapL false l) (i + gapL false l + c.len)) (by omega) hsc
    have hR : scanR (s.extract (i + gapL false l) (i + gapL false l + c.len)) [⟨c.kind, c.num, c.text, 0, c.len⟩, ⟨0, 0, [], c.len, c.len⟩] none
        = ([⟨c.kind, (c.num : Int), ⟨c.text.toArray⟩, 0, (c.len : Int)⟩, ⟨0, 0, ⟨#[]⟩, (c.len : Int), (c.len : Int)⟩], 0, 0) := by
      unfold scanR; rw [if_neg (by omega)]; rfl
    rw [hR] at hK2
    refine ⟨K + K2 + 2 * s.size + 9, fun k hk => ?_⟩
    obtain ⟨k, rfl⟩ : ∃ m, k = m + 1 + 1 := ⟨k - 2, by omega⟩
    have hgf := lawgap_f (s.extract i (i + gapL false l)) (by omega) (by rw [hg1]; exact gap_all hg) (k + 1) (by omega)
    have hkk := hK k (by omega)
    have hk2 := hK2 k (by omega)
    have hkind := tokL_kind ht
    generalize hp : i + gapL false l = p at *
    have he1 : (toS ⟨c.kind, c.num, c.text, p, p + c.len⟩) = ⟨c.kind, (c.num : Int), ⟨c.text.toArray⟩, (p : Int), ((p + c.len : Nat) : Int)⟩ := rfl
    rw [he1] at ha
    have b0 : L.length = j + ts.length + 1 := by omega
    have b1 : L.length ≤ 100000 := by omega
    have b2 : j ≤ 100000 := by omega
    have b3 : p + c.len ≤ 100000 := by omega
    have r0 : (j : Int) < (L.length : Int) := by omega
    have r1 : (0 : Int) ≤ (j : Int) := Int.natCast_nonneg _
    have r2 : ¬ ((p : Int) < (i : Int)) := by omega
    have r3 : ¬ (((p + c.len : Nat) : Int) < (p : Int)) := by omega
    have r4 : ¬ (((p + c.len : Nat) : Int) > (s.size : Int)) := by omega
    have r5 : (0 : Int) ≤ (i : Int) := Int.natCast_nonneg _
    have r6 : (i : Int) ≤ (p : Int) := by omega
    have r7 : (p : Int) ≤ (s.size : Int) := by omega
    have r8 : (0 : Int) ≤ (p : Int) := Int.natCast_nonneg _
    have r9 : (p : Int) ≤ ((p + c.len : Nat) : Int) := by omega
    have ra : ((p + c.len : Nat) : Int) ≤ (s.size : Int) := by omega
    have hq : ((c.kind == 0) != ((j : Int) == ((j + ts.length : Nat) : Int))) = false := by
      have q1 : (c.kind == 0) = false := by simpa using hkind
      have q2 : ((j : Int) == ((j + ts.length : Nat) : Int)) = false := by
        simp only [beq_eq_false_iff_ne]; omega
      rw [q1, q2]; rfl
    have w1 := w_sub1 b0 b1
    have w2 := w_add1 b2
    have w3 := w_subp b3
    simp only [octroilaw04_ScanCovers.l0]
    rw [ha]
    dsimp only
    rw [if_pos r0, if_pos r1, if_neg r2, if_neg r3, if_neg r4, if_pos r5, if_pos r6, if_pos r7, Int.toNat_natCast, Int.toNat_natCast, hgf, w1]
    rw [Option.bind_some, if_pos rfl, hq]
    simp only [octroilaw04_ScanCovers.j2]
    rw [if_neg (by decide), if_neg hkind, if_pos r8, if_pos r9, if_pos ra, Int.toNat_natCast, Int.toNat_natCast, hk2, Option.bind_some]
    rw [w2, w3]
    rw [if_pos (by rfl), if_pos (by rfl), if_pos (by exact (by decide : (0 : Int) < 2)), if_pos (by rfl), if_pos (by rfl), if_pos (by rfl), if_pos (by rfl), if_pos (by rfl)]
    exact hkk

theorem ScanCovers : ∀ (a0 : ByteArray), a0.size ≤ 140737488351232 → ∃ k, octroilaw04_ScanCovers.f k a0 = some true := by
  intro s hs
  obtain ⟨ts, e, h⟩ := Sc.total 0 (bs s)
  obtain ⟨K0, h0⟩ := awake_on
  obtain ⟨K1, h1⟩ := scan_f s hs h
  by_cases hbig : s.size > 8192
  · obtain ⟨k, hk0, hk1⟩ : ∃ k, K0 ≤ k ∧ K1 ≤ k := ⟨K0 + K1, by omega, by omega⟩
    refine ⟨k, ?_⟩
    obtain ⟨P, hP⟩ : ∃ P : Int, P = 8192 := ⟨_, rfl⟩
    have e1 : scanR s ts e = ([], P, 2) := by unfold scanR; rw [if_pos hbig, hP]
    have q0 : P ≥ 0 := by omega
    have q1 : decide (P ≤ (s.size : Int)) = true := decide_eq_true (by omega)
    unfold octroilaw04_ScanCovers.f
    rw [h0 _ (by omega), Option.bind_some, if_pos rfl, h1 _ (by omega), e1, Option.bind_some]
    show (if (2 : Int) = 0 then _ else if (([] : List S).length : Int) = 0 then (if P ≥ 0 then some (decide (P ≤ (s.size : Int))) else some false) else some false) = some true
    rw [if_neg (by decide), if_pos (by rfl), if_pos q0, q1]
  cases e with
  | some px =>
    obtain ⟨p, x⟩ := px
    obtain ⟨k, hk0, hk1⟩ : ∃ k, K0 ≤ k ∧ K1 ≤ k := ⟨K0 + K1, by omega, by omega⟩
    refine ⟨k, ?_⟩
    have e1 : scanR s ts (some (p, x)) = ([], (p : Int), x) := by unfold scanR; rw [if_neg hbig]; rfl
    obtain ⟨_, hp, _⟩ := Sc.ahead h p x rfl
    rw [bs_len, Nat.zero_add] at hp
    have hx : ¬ (x = 0) := by
      have : x = 2 ∨ x = 30 ∨ x = 40 := Sc.err h p x rfl
      omega
    have q0 : (p : Int) ≥ 0 := Int.natCast_nonneg p
    have q1 : decide ((p : Int) ≤ (s.size : Int)) = true := decide_eq_true (by omega)
    unfold octroilaw04_ScanCovers.f
    rw [h0 _ (by omega), Option.bind_some, if_pos rfl, h1 _ (by omega), e1, Option.bind_some]
    show (if x = 0 then _ else if (([] : List S).length : Int) = 0 then (if (p : Int) ≥ 0 then some (decide ((p : Int) ≤ (s.size : Int))) else some false) else some false) = some true
    rw [if_neg hx, if_pos (by rfl), if_pos q0, q1]
  | none =>
    have e1 : scanR s ts none = (ts.map toS, 0, 0) := by unfold scanR; rw [if_neg hbig]; simp [resOf]
    have hl := Sc.length_le h
    rw [bs_len] at hl
    have hts : 0 < ts.length := by cases h <;> simp
    obtain ⟨K2, h2⟩ := covers_l0 s (by omega) (ts.map toS) (by rw [List.length_map]; omega) h rfl rfl (by omega) 0 rfl
    obtain ⟨k, hk0, hk1, hk2⟩ : ∃ k, K0 ≤ k ∧ K1 ≤ k ∧ K2 ≤ k := ⟨K0 + K1 + K2, by omega, by omega, by omega⟩
    refine ⟨k + 1, ?_⟩
    have q0 : ¬ (((ts.map toS).length : Int) = 0) := by rw [List.length_map]; omega
    unfold octroilaw04_ScanCovers.f
    rw [h0 _ (by omega), Option.bind_some, if_pos rfl, h1 _ (by omega), e1, Option.bind_some]
    show (if (0 : Int) = 0 then (if ((ts.map toS).length : Int) = 0 then _ else octroilaw04_ScanCovers.j0 (k + 1) s (ts.map toS) ((0 : Int) != 0)) else _) = some true
    rw [if_pos rfl, if_neg q0]
    simp only [octroilaw04_ScanCovers.j0]
    rw [if_neg (by decide)]
    exact h2 k hk2
end Go.Proofs.Ytfkikmiajldojaa.S
