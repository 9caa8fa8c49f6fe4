/- ScanSpaced in plain words, over the printed walk. -/
import Derived.Test.YtfkikmiajldojaaSfOctroilaw04ScanSpaced0
import Derived.Test.YtfkikmiajldojaaScanAwake
import Derived.Test.YtfkikmiajldojaaScanSpace
import Derived.Lib.LazyBuf
set_option linter.unusedVariables false
set_option linter.unusedSimpArgs false
namespace Go.Proofs.Ytfkikmiajldojaa.S
open Go.RowKit Go.Proofs.YtfkikmiajldojaaW.PrintWords Go.Proofs.YtfkikmiajldojaaW.PrintLast Go.Proofs.YtfkikmiajldojaaW.PrintMore Go.Proofs.Ytfkikmiajldojaa.Pure

theorem sp_drop_at {L : List S} {j : Nat} {a : S} {r : List S} (h : L.drop j = a :: r) : rd_T32 L (j : Int) = a ∧ L.length = j + 1 + r.length ∧ L.drop (j + 1) = r := by
  have hj : L.length - j = r.length + 1 := by have := congrArg List.length h; simpa using this
  refine ⟨?_, by omega, ?_⟩
  · have hg : L[j]? = some a := by
      have : (L.drop j)[0]? = some a := by rw [h]; rfl
      rw [List.getElem?_drop] at this
      simpa using this
    rw [rd_T32, Int.toNat_natCast, List.getD_eq_getElem?_getD, hg]
    rfl
  · rw [← List.drop_drop, h]; rfl

def nm (l : List UInt8) : List Int := l.map fun b => (b.toNat : Int)
theorem nm_app (a b : List UInt8) : nm (a ++ b) = nm a ++ nm b := by simp [nm]
theorem nm_len (l : List UInt8) : (nm l).length = l.length := by simp [nm]
theorem nm_bytes (s : ByteArray) : bytesOf s = nm (bs s) := rfl
theorem sp_add1 {n : Nat} (hb : n ≤ 100000) : wrap64 ((n : Int) + 1) = ((n + 1 : Nat) : Int) := by rw [wrap_small (by omega) (by omega)]; omega

/-- The comparing loop. -/
theorem sp_l2 (a b : List S) (hl : b.length = a.length) (hb : a.length ≤ 8193) (d : Nat) : ∀ (k j : Nat) (ts ts' : List Tk), a.drop j = ts.map toS → b.drop j = ts'.map toS → AlikeT ts ts' →
    (∀ t ∈ ts, t.stop ≤ 8192) → (∀ t ∈ ts', t.stop ≤ 8192) → ts.length ≤ d → d < k → octroilaw04_ScanSpaced.l2 k a b (j : Int) = some true := by
  induction d with
  | zero =>
    intro k j ts ts' ha hb' hal h1 h2 hd hk
    obtain ⟨k, rfl⟩ : ∃ m, k = m + 1 := ⟨k - 1, by omega⟩
    have : ts = [] := List.eq_nil_of_length_eq_zero (by omega)
    subst this
    have : a.length ≤ j := by
      have := congrArg List.length ha
      simp at this
      omega
    simp only [octroilaw04_ScanSpaced.l2]
    rw [if_neg (by omega)]
  | succ d ih =>
    intro k j ts ts' ha hb' hal h1 h2 hd hk
    obtain ⟨k, rfl⟩ : ∃ m, k = m + 1 := ⟨k - 1, by omega⟩
    cases hal with
    | nil =>
      have : a.length ≤ j := by
        have := congrArg List.length ha
        simp at this
        omega
      simp only [octroilaw04_ScanSpaced.l2]
      rw [if_neg (by omega)]
    | @cons x y xs' bs' hk1 hn ht hlen hxs hys h =>
      obtain ⟨ra, la, da⟩ := sp_drop_at ha
      obtain ⟨rb, lb, db⟩ := sp_drop_at hb'
      have hx := h1 x (by simp)
      have hy := h2 y (by simp)
      have hnext := ih k (j + 1) xs' bs' da db h (fun t ht => h1 t (by simp [ht])) (fun t ht => h2 t (by simp [ht])) (by simp at hd; omega) (by omega)
      have r0 : (j : Int) < (a.length : Int) := by omega
      have r1 : (j : Int) < (b.length : Int) := by omega
      have r2 : (j : Int) ≥ 0 := Int.natCast_nonneg _
      have hj : j ≤ 100000 := by omega
      have e1 : wrap64 ((toS y).f4 - (toS y).f3) = wrap64 ((toS x).f4 - (toS x).f3) := by
        show wrap64 ((y.stop : Int) - (y.start : Int)) = wrap64 ((x.stop : Int) - (x.start : Int))
        congr 1
        omega
      have e2 : (toS y).f0 = (toS x).f0 := hk1
      have e3 : (toS y).f1 = (toS x).f1 := by show (y.num : Int) = (x.num : Int); rw [hn]
      have e4 : (toS y).f2 = (toS x).f2 := by show (⟨y.text.toArray⟩ : ByteArray) = ⟨x.text.toArray⟩; rw [ht]
      simp only [octroilaw04_ScanSpaced.l2]
      rw [if_pos r0, if_pos r2, if_pos r1, ra, rb, e1, e2, e3, e4, sp_add1 hj, hnext]
      simp

/-- The loop over the remark: a line feed in it ends the law. -/
theorem sp_l0 (s r : ByteArray) (hr : r.size ≤ 20) (L : List S) (hres : ∃ K, ∀ k, K ≤ k → (∀ c ∈ bs r, c ≠ 10) → octroilaw04_ScanSpaced.l1 k s r L [] 0 = some true) (d : Nat) :
    ∀ i : Nat, i ≤ r.size → r.size - i ≤ d → (∀ c ∈ (bs r).take i, c ≠ 10) → ∃ K, ∀ k, K ≤ k → octroilaw04_ScanSpaced.l0 k s r L (i : Int) = some true := by
  induction d with
  | zero =>
    intro i h0 h1 hi
    obtain ⟨K, hK⟩ := hres
    refine ⟨K + 1, fun k hk => ?_⟩
    obtain ⟨k, rfl⟩ : ∃ m, k = m + 1 := ⟨k - 1, by omega⟩
    rw [List.take_of_length_le (by rw [bs_len]; omega)] at hi
    simp only [octroilaw04_ScanSpaced.l0]
    rw [if_neg (by omega)]
    exact hK k (by omega) hi
  | succ d ih =>
    intro i h0 h1 hi
    rcases Nat.lt_or_ge i r.size with hlt | hge
    · have hb := bt_nat r i hlt
      by_cases h10 : (bs r)[i]'(by rw [bs_len]; exact hlt) = 10
      · refine ⟨1, fun k hk => ?_⟩
        obtain ⟨k, rfl⟩ : ∃ m, k = m + 1 := ⟨k - 1, by omega⟩
        rw [h10] at hb
        simp only [octroilaw04_ScanSpaced.l0]
        rw [if_pos (Int.ofNat_lt.2 hlt), if_pos (Int.natCast_nonneg _), hb, if_pos (by decide)]
      · obtain ⟨K, hK⟩ := ih (i + 1) (by omega) (by omega) (by
          intro c hc
          rw [List.take_succ_eq_append_getElem (by rw [bs_len]; exact hlt)] at hc
          rcases List.mem_append.1 hc with h | h
          · exact hi c h
          · rw [List.mem_singleton] at h; rw [h]; exact h10)
        refine ⟨K + 1, fun k hk => ?_⟩
        obtain ⟨k, rfl⟩ : ∃ m, k = m + 1 := ⟨k - 1, by omega⟩
        have hne : ¬ (bt r (i : Int) = 10) := by
          rw [hb]
          intro h
          apply h10
          apply UInt8.toNat_inj.1
          have : (10 : UInt8).toNat = 10 := rfl
          omega
        have hi1 : i ≤ 100000 := by omega
        simp only [octroilaw04_ScanSpaced.l0]
        rw [if_pos (Int.ofNat_lt.2 hlt), if_pos (Int.natCast_nonneg _), if_neg hne, sp_add1 hi1]
        exact hK k (by omega)
    · obtain ⟨K, hK⟩ := hres
      refine ⟨K + 1, fun k hk => ?_⟩
      obtain ⟨k, rfl⟩ : ∃ m, k = m + 1 := ⟨k - 1, by omega⟩
      rw [List.take_of_length_le (by rw [bs_len]; omega)] at hi
      simp only [octroilaw04_ScanSpaced.l0]
      rw [if_neg (by omega)]
      exact hK k (by omega) hi

theorem sp_tmod (j : Nat) : Int.tmod (j : Int) 3 = ((j % 3 : Nat) : Int) := rfl

/-- The building loop. -/
theorem sp_l1 (s r : ByteArray) (hs : s.size ≤ 8192) (hr : r.size ≤ 20) (L : List S) (hL : L.length ≤ 8193) (B : List UInt8)
    (fin : ∃ K, ∀ k, K ≤ k → octroilaw04_ScanSpaced.l1 k s r L (nm B) (L.length : Int) = some true) (ts : List Tk) :
    ∀ (j : Nat) (acc : List UInt8), L.drop j = ts.map toS → j ≤ L.length → (∀ t ∈ ts, t.start ≤ t.stop ∧ t.stop ≤ s.size) → acc.length + ts.length * 9000 ≤ 100000000 → acc ++ spaced (bs s) (bs r) j ts = B →
    ∃ K, ∀ k, K ≤ k → octroilaw04_ScanSpaced.l1 k s r L (nm acc) (j : Int) = some true := by
  induction ts with
  | nil =>
    intro j acc hd hj _ _ hB
    have h1 : L.length ≤ j := by
      have := congrArg List.length hd
      simp at this
      omega
    have : j = L.length := by omega
    subst this
    rw [spaced, List.append_nil] at hB
    rw [hB]
    exact fin
  | cons t ts ih =>
    intro j acc hd hj hts hcap hB
    obtain ⟨ra, la, da⟩ := sp_drop_at hd
    have la : L.length = j + 1 + ts.length := by simpa using la
    obtain ⟨ht1, ht2⟩ := hts t (by simp)
    rw [List.length_cons] at hcap
    have hp : bs (s.extract t.start t.stop) = ((bs s).take t.stop).drop t.start := bs_extract s _ _
    have hpl : (s.extract t.start t.stop).size = t.stop - t.start := by rw [← bs_len, hp, List.length_drop, List.length_take, bs_len]; omega
    have hsep : (sepG (bs r) j).length ≤ 23 := by
      unfold sepG
      split
      · simp only [List.length_cons, List.length_append, List.length_nil, bs_len]; omega
      · simp
    have hpc : (((bs s).take t.stop).drop t.start).length = t.stop - t.start := by rw [← hp, bs_len, hpl]
    obtain ⟨K, hK⟩ := ih (j + 1) (acc ++ (((bs s).take t.stop).drop t.start ++ sepG (bs r) j)) da (by omega) (fun t ht => hts t (by simp [ht]))
      (by simp only [List.length_append, hpc]; omega)
      (by rw [← hB]; simp only [spaced, List.append_assoc])
    refine ⟨K + 1, fun k hk => ?_⟩
    obtain ⟨k, rfl⟩ : ∃ m, k = m + 1 := ⟨k - 1, by omega⟩
    have hk := hK k (by omega)
    have ra' : rd_T32 L (j : Int) = ⟨t.kind, (t.num : Int), ⟨t.text.toArray⟩, (t.start : Int), (t.stop : Int)⟩ := ra
    have r0 : (j : Int) < (L.length : Int) := by omega
    have r1 : (0 : Int) ≤ (j : Int) := Int.natCast_nonneg _
    have r2 : (0 : Int) ≤ (t.start : Int) := Int.natCast_nonneg _
    have r3 : (t.start : Int) ≤ (t.stop : Int) := by omega
    have r4 : (t.stop : Int) ≤ (s.size : Int) := by omega
    have hj1 : j ≤ 100000 := by omega
    have c1 : (nm acc).length + (s.extract t.start t.stop).size < 140737488355328 := by rw [nm_len, hpl]; omega
    have c2 : (nm acc ++ bytesOf (s.extract t.start t.stop)).length < 140737488355328 := by rw [List.length_append, nm_len, nm_bytes, nm_len, bs_len, hpl]; omega
    have c3 : (nm acc ++ bytesOf (s.extract t.start t.stop) ++ [9]).length < 140737488355328 := by rw [List.length_append, List.length_append, nm_len, nm_bytes, nm_len, bs_len, hpl, List.length_singleton]; omega
    have c4 : (nm acc ++ bytesOf (s.extract t.start t.stop) ++ [9] ++ [35]).length + r.size < 140737488355328 := by rw [List.length_append, List.length_append, List.length_append, nm_len, nm_bytes, nm_len, bs_len, hpl, List.length_singleton, List.length_singleton]; omega
    have c5 : (nm acc ++ bytesOf (s.extract t.start t.stop) ++ [9] ++ [35] ++ bytesOf r).length < 140737488355328 := by rw [List.length_append, List.length_append, List.length_append, List.length_append, nm_len, nm_bytes, nm_len, bs_len, hpl, List.length_singleton, List.length_singleton, nm_bytes, nm_len, bs_len]; omega
    simp only [octroilaw04_ScanSpaced.l1]
    rw [if_pos r0, if_pos r1, ra']
    dsimp only
    rw [if_pos r2, if_pos r3, if_pos r4, Int.toNat_natCast, Int.toNat_natCast, if_pos c1, Option.bind_some, if_pos c2, Option.bind_some, sp_add1 hj1]
    by_cases h3 : j % 3 = 0
    · rw [if_pos (by rw [sp_tmod, h3]; rfl), if_pos c3, Option.bind_some, if_pos c4, Option.bind_some, if_pos c5]
      have e : nm acc ++ bytesOf (s.extract t.start t.stop) ++ [9] ++ [35] ++ bytesOf r ++ [10] = nm (acc ++ (((bs s).take t.stop).drop t.start ++ sepG (bs r) j)) := by
        rw [nm_app, nm_app, ← hp, ← nm_bytes]
        have : nm (sepG (bs r) j) = [9] ++ [35] ++ bytesOf r ++ [10] := by
          unfold sepG; rw [if_pos h3]; simp [nm, bytesOf, bs]
        rw [this]
        simp only [List.append_assoc]
      rw [e]
      exact hk
    · rw [if_neg (by rw [sp_tmod]; omega)]
      have e : nm acc ++ bytesOf (s.extract t.start t.stop) ++ [9] = nm (acc ++ (((bs s).take t.stop).drop t.start ++ sepG (bs r) j)) := by
        rw [nm_app, nm_app, ← hp, ← nm_bytes]
        have : nm (sepG (bs r) j) = [9] := by
          unfold sepG; rw [if_neg h3]; rfl
        rw [this]
        simp only [List.append_assoc]
      rw [e]
      exact hk

theorem AlikeT.len {a b : List Tk} (h : AlikeT a b) : b.length = a.length := by
  induction h with
  | nil => rfl
  | cons _ _ _ _ _ _ _ ih => simp [ih]

theorem Sc.bound {i : Nat} {l : List UInt8} {ts : List Tk} {e : Option (Nat × Int)} (h : Sc i l ts e) : ∀ t ∈ ts, t.start ≤ t.stop ∧ t.stop ≤ i + l.length := by
  induction h with
  | fin _ => intro t ht; rw [List.mem_singleton] at ht; subst ht; exact ⟨Nat.le_refl _, Nat.le_refl _⟩
  | bad _ _ => intro t ht; exact (List.not_mem_nil ht).elim
  | @tok i l c ts e hg ht hs ih =>
    intro t h
    have hc := tokL_len ht
    rw [List.length_drop] at hc
    rcases List.mem_cons.1 h with rfl | h
    · exact ⟨by simp only []; omega, by simp only []; omega⟩
    · have := ih t h
      rw [List.length_drop] at this
      omega

theorem closed_nil : Closed [] := fun m => by simp

theorem ScanSpaced : ∀ (a0 a1 : ByteArray), a0.size ≤ 140737488351232 → a1.size ≤ 140737488351232 → ∃ k, octroilaw04_ScanSpaced.f k a0 a1 = some true := by
  intro s r hs hr
  obtain ⟨ts, e, h⟩ := Sc.total 0 (bs s)
  obtain ⟨K0, h0⟩ := awake_on
  obtain ⟨K1, h1⟩ := scan_f s hs h
  have side : ∀ x : Int, ¬ (x = 0) → (∃ P, scanR s ts e = ([], P, x)) → ∃ k, octroilaw04_ScanSpaced.f k s r = some true := by
    rintro x hx ⟨P, hP⟩
    obtain ⟨k, hk0, hk1⟩ : ∃ k, K0 ≤ k ∧ K1 ≤ k := ⟨K0 + K1, by omega, by omega⟩
    refine ⟨k + 1, ?_⟩
    unfold octroilaw04_ScanSpaced.f
    rw [h0 _ (by omega), Option.bind_some, if_pos rfl, h1 _ (by omega), hP, Option.bind_some]
    show (if x = 0 then _ else octroilaw04_ScanSpaced.j0 (k + 1) s r [] true) = some true
    rw [if_neg hx]
    simp only [octroilaw04_ScanSpaced.j0]
    rw [if_pos trivial]
  by_cases hbig : s.size > 8192
  · exact side 2 (by decide) ⟨8192, by unfold scanR; rw [if_pos hbig]⟩
  cases e with
  | some px =>
    obtain ⟨p, x⟩ := px
    have hx : ¬ (x = 0) := by
      have : x = 2 ∨ x = 30 ∨ x = 40 := Sc.err h p x rfl
      omega
    exact side x hx ⟨(p : Int), by unfold scanR; rw [if_neg hbig]; rfl⟩
  | none =>
    clear side
    have e1 : scanR s ts none = (ts.map toS, 0, 0) := by unfold scanR; rw [if_neg hbig]; simp [resOf]
    have hl := Sc.length_le h
    rw [bs_len] at hl
    have hbd := Sc.bound h
    rw [bs_len, Nat.zero_add] at hbd
    have go : ∀ b : Bool, (∃ K, ∀ k, K ≤ k → octroilaw04_ScanSpaced.j0 k s r (ts.map toS) b = some true) → b = decide ((r.size : Int) > 20) → ∃ k, octroilaw04_ScanSpaced.f k s r = some true := by
      rintro b ⟨K, hK⟩ hb
      obtain ⟨k, hk0, hk1, hk2⟩ : ∃ k, K0 ≤ k ∧ K1 ≤ k ∧ K ≤ k := ⟨K0 + K1 + K, by omega, by omega, by omega⟩
      refine ⟨k, ?_⟩
      unfold octroilaw04_ScanSpaced.f
      rw [h0 _ (by omega), Option.bind_some, if_pos rfl, h1 _ (by omega), e1, Option.bind_some, ← hb]
      show (if (0 : Int) = 0 then octroilaw04_ScanSpaced.j0 k s r (ts.map toS) b else _) = some true
      rw [if_pos rfl]
      exact hK k hk2
    by_cases h20 : r.size > 20
    · refine go true ⟨1, fun k hk => ?_⟩ (decide_eq_true (by omega)).symm
      obtain ⟨k, rfl⟩ : ∃ m, k = m + 1 := ⟨k - 1, by omega⟩
      simp only [octroilaw04_ScanSpaced.j0]
      rw [if_pos trivial]
    · have hres : ∃ K, ∀ k, K ≤ k → (∀ c ∈ bs r, c ≠ 10) → octroilaw04_ScanSpaced.l1 k s r (ts.map toS) [] 0 = some true := by
        by_cases hlf : ∀ c ∈ bs r, c ≠ 10
        · obtain ⟨ts', h', hal⟩ := Sc.spaced_ hlf h rfl rfl (by omega) 0 0 [] closed_nil
          have hlen := AlikeT.len hal
          have hLl : (ts.map toS).length = ts.length := List.length_map ..
          obtain ⟨K, hK⟩ := sp_l1 s r (by omega) (by omega) (ts.map toS) (by omega) ([] ++ spaced (bs s) (bs r) 0 ts) (by
            generalize hB : [] ++ spaced (bs s) (bs r) 0 ts = B at h'
            by_cases hbl : B.length > 8192
            · refine ⟨1, fun k hk => ?_⟩
              obtain ⟨k, rfl⟩ : ∃ m, k = m + 1 := ⟨k - 1, by omega⟩
              simp only [octroilaw04_ScanSpaced.l1]
              rw [if_neg (Int.lt_irrefl _), if_pos (by rw [nm_len]; omega)]
            · have hsz : (⟨B.toArray⟩ : ByteArray).size = B.length := by show B.toArray.size = _; simp
              have hbs : bs (⟨B.toArray⟩ : ByteArray) = B := by simp [bs]
              obtain ⟨K, hK⟩ := scan_f ⟨B.toArray⟩ (by omega) (by rw [hbs]; exact h')
              have e2 : scanR ⟨B.toArray⟩ ts' none = (ts'.map toS, 0, 0) := by unfold scanR; rw [if_neg (by omega)]; simp [resOf]
              have hbd' := Sc.bound h'
              rw [Nat.zero_add] at hbd'
              refine ⟨K + ts.length + 5, fun k hk => ?_⟩
              obtain ⟨k, rfl⟩ : ∃ m, k = m + 1 := ⟨k - 1, by omega⟩
              obtain ⟨k, rfl⟩ : ∃ m, k = m + 1 := ⟨k - 1, by omega⟩
              have h2 := sp_l2 (ts.map toS) (ts'.map toS) (by simp [hlen]) (by omega) ts.length k 0 ts ts' rfl rfl hal (fun t ht => by have := hbd t ht; omega) (fun t ht => by have := hbd' t ht; omega) (Nat.le_refl _) (by omega)
              have hstr : strOfNums (nm B) = ⟨B.toArray⟩ := Go.Lib.Lz.strOfNums_map B
              have hne : (((ts'.map toS).length : Int) != ((ts.map toS).length : Int)) = false := by simp [hlen]
              simp only [octroilaw04_ScanSpaced.l1]
              rw [if_neg (Int.lt_irrefl _), if_neg (by rw [nm_len]; omega), hstr, hK _ (by omega), e2, Option.bind_some]
              show (if (0 : Int) = 0 then octroilaw04_ScanSpaced.j3 (k + 1) (ts.map toS) (ts'.map toS) (((ts'.map toS).length : Int) != ((ts.map toS).length : Int)) else _) = some true
              rw [if_pos rfl, hne]
              simp only [octroilaw04_ScanSpaced.j3]
              rw [if_neg (by decide)]
              exact h2) ts 0 [] rfl (Nat.zero_le _) (fun t ht => by have := hbd t ht; omega) (by simp only [List.length_nil]; omega) rfl
          exact ⟨K, fun k hk _ => hK k hk⟩
        · exact ⟨0, fun k _ h => absurd h hlf⟩
      obtain ⟨K, hK⟩ := sp_l0 s r (by omega) (ts.map toS) hres r.size 0 (by omega) (by omega) (fun c hc => by simp at hc)
      refine go false ⟨K + 1, fun k hk => ?_⟩ (decide_eq_false (by omega)).symm
      obtain ⟨k, rfl⟩ : ∃ m, k = m + 1 := ⟨k - 1, by omega⟩
      simp only [octroilaw04_ScanSpaced.j0]
      rw [if_neg (by decide)]
      exact hK k (by omega)
end Go.Proofs.Ytfkikmiajldojaa.S
