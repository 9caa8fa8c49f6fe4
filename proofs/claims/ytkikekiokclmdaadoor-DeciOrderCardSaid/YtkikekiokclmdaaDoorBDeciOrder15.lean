/- What the proof needs, part 15 of 19. DeciOrder answers true for every two wides; the input reads as it did. -/
import Derived.Test.YtkikekiokclmdaaDoorBDeciOrder14
import Derived.Test.YtkikekiokclmdaaDoorBDeciOrder9
import Derived.Test.YtkikekiokclmdaaDoorBDeciOrder5
import Derived.Test.YtkikekiokclmdaaDoorBDeciOrder10
import Derived.Test.YtkikekiokclmdaaDoorBDeciOrder8
set_option linter.unusedVariables false
set_option linter.unusedSimpArgs false
namespace Go.Proofs.YtkikekiokclmdaaDoor.S
open Go.RowKit Go.Proofs.YtkikekiokclmdaaDoorW.PrintWords
def topV (F : Nat → Int) : Int := F 8 + 65536 * (F 9 + 65536 * (F 10 + 65536 * F 11))
def val (F : Nat → Int) : Int := hv F 0 0 + 18446744073709551616 * hv F 4 0 + 340282366920938463463374607431768211456 * topV F
theorem digs_of {F : Nat → Int} (h : Dig F) : (0 ≤ F 0 ∧ F 0 < 65536) ∧ (0 ≤ F 1 ∧ F 1 < 65536) ∧ (0 ≤ F 2 ∧ F 2 < 65536) ∧ (0 ≤ F 3 ∧ F 3 < 65536) ∧ (0 ≤ F 4 ∧ F 4 < 65536) ∧ (0 ≤ F 5 ∧ F 5 < 65536) ∧ (0 ≤ F 6 ∧ F 6 < 65536) ∧ (0 ≤ F 7 ∧ F 7 < 65536) ∧ (0 ≤ F 8 ∧ F 8 < 65536) ∧ (0 ≤ F 9 ∧ F 9 < 65536) ∧ (0 ≤ F 10 ∧ F 10 < 65536) ∧ (0 ≤ F 11 ∧ F 11 < 65536) :=
  ⟨h 0 (by decide), h 1 (by decide), h 2 (by decide), h 3 (by decide), h 4 (by decide), h 5 (by decide), h 6 (by decide), h 7 (by decide), h 8 (by decide), h 9 (by decide), h 10 (by decide), h 11 (by decide)⟩
theorem val_bounds {F : Nat → Int} (h : Dig F) : 0 ≤ hv F 0 0 ∧ hv F 0 0 < 18446744073709551616 ∧ 0 ≤ hv F 4 0 ∧ hv F 4 0 < 18446744073709551616 ∧ 0 ≤ topV F ∧ topV F < 18446744073709551616 := by
  obtain ⟨a0, a1, a2, a3, a4, a5, a6, a7, a8, a9, a10, a11⟩ := digs_of h
  refine ⟨(hv_bound h (by decide) 0 (by decide)).1, (hv_bound h (by decide) 0 (by decide)).2.2, (hv_bound h (by decide) 0 (by decide)).1, (hv_bound h (by decide) 0 (by decide)).2.2, ?_, ?_⟩ <;> unfold topV <;> omega
theorem car_step (F G : Nat → Int) (j : Nat) : F j + G j + car F G j = plusD F G j + 65536 * car F G (j + 1) := by
  unfold plusD
  simp only [car]
  omega
theorem val_plus {F G : Nat → Int} : val F + val G = val (plusD F G) + 6277101735386680763835789423207666416102355444464034512896 * car F G 12 := by
  have e0 := car_step F G 0
  have e1 := car_step F G 1
  have e2 := car_step F G 2
  have e3 := car_step F G 3
  have e4 := car_step F G 4
  have e5 := car_step F G 5
  have e6 := car_step F G 6
  have e7 := car_step F G 7
  have e8 := car_step F G 8
  have e9 := car_step F G 9
  have e10 := car_step F G 10
  have e11 := car_step F G 11
  have c0 : car F G 0 = 0 := rfl
  simp only [Nat.reduceAdd] at e0 e1 e2 e3 e4 e5 e6 e7 e8 e9 e10 e11
  simp only [val, topV, hv, Nat.reduceAdd]
  generalize plusD F G = P at *
  generalize car F G = C at *
  omega
theorem val_turn (F : Nat → Int) : val (turnD F) = 6277101735386680763835789423207666416102355444464034512895 - val F := by
  simp only [val, topV, hv, turnD, Nat.reduceAdd]
  omega
theorem val_one : val oneF = 1 := by decide
theorem dg_sum {x : Int} (h0 : 0 ≤ x) (h1 : x < 18446744073709551616) : ((dg x 3 * 65536 + dg x 2) * 65536 + dg x 1) * 65536 + dg x 0 = x := by
  unfold dg
  rw [show ((65536 : Int) ^ 0) = 1 from by decide, show ((65536 : Int) ^ 1) = 65536 from by decide, show ((65536 : Int) ^ 2) = 4294967296 from by decide, show ((65536 : Int) ^ 3) = 281474976710656 from by decide]
  omega
theorem hv_digF0 {hi lo : Int} (h0 : 0 ≤ lo) (h1 : lo < 18446744073709551616) : hv (digF hi lo) 0 0 = lo := by
  rw [show hv (digF hi lo) 0 0 = ((dg lo 3 * 65536 + dg lo 2) * 65536 + dg lo 1) * 65536 + dg lo 0 from rfl]
  exact dg_sum h0 h1
theorem hv_digF4 {hi lo : Int} : hv (digF hi lo) 4 0 = hi % 18446744073709551616 := by
  rw [show hv (digF hi lo) 4 0 = ((dg (IntKind.u64.wrap hi) 3 * 65536 + dg (IntKind.u64.wrap hi) 2) * 65536 + dg (IntKind.u64.wrap hi) 1) * 65536 + dg (IntKind.u64.wrap hi) 0 from rfl, dg_sum (by rw [wrap_u64]; omega) (by rw [wrap_u64]; omega), wrap_u64]
theorem top_digF {hi lo : Int} : topV (digF hi lo) = if hi < 0 then 18446744073709551615 else 0 := by
  have e : ∀ i, 8 ≤ i → digF hi lo i = if hi < 0 then 65535 else 0 := fun i hi8 => by
    unfold digF
    rw [if_neg (by omega), if_neg (by omega)]
  unfold topV
  rw [e 8 (by decide), e 9 (by decide), e 10 (by decide), e 11 (by decide)]
  by_cases h : hi < 0
  · rw [if_pos h, if_pos h]; omega
  · rw [if_neg h, if_neg h]; omega
theorem dig11 {hi lo : Int} : digF hi lo 11 = if hi < 0 then 65535 else 0 := rfl
theorem val_neg {F : Nat → Int} (h : Dig F) : (val F = 0 ∧ val (plusD (turnD F) oneF) = 0) ∨ (0 < val F ∧ val (plusD (turnD F) oneF) = 6277101735386680763835789423207666416102355444464034512896 - val F) := by
  have e := val_plus (F := turnD F) (G := oneF)
  rw [val_turn, val_one] at e
  obtain ⟨a, b, c, d, f, g⟩ := val_bounds h
  obtain ⟨a', b', c', d', f', g'⟩ := val_bounds (Dig.plus (turnD F) oneF)
  have k := car_le (h.turn) Dig.one 12 (by decide)
  have x : val F = hv F 0 0 + 18446744073709551616 * hv F 4 0 + 340282366920938463463374607431768211456 * topV F := rfl
  have y : val (plusD (turnD F) oneF) = hv (plusD (turnD F) oneF) 0 0 + 18446744073709551616 * hv (plusD (turnD F) oneF) 4 0 + 340282366920938463463374607431768211456 * topV (plusD (turnD F) oneF) := rfl
  generalize plusD (turnD F) oneF = G at *
  omega
theorem val_digF {hi lo : Int} (l0 : 0 ≤ lo) (l1 : lo < 18446744073709551616) : val (digF hi lo) = lo + 18446744073709551616 * (hi % 18446744073709551616) + 340282366920938463463374607431768211456 * (if hi < 0 then 18446744073709551615 else 0) := by
  unfold val
  rw [hv_digF0 l0 l1, hv_digF4, top_digF]
theorem val_absG {h l : Int} (w : Wd h l) : val (absG h l) = (V h l).natAbs := by
  obtain ⟨a, b, c, d⟩ := w
  have e := val_digF (hi := h) c d
  unfold absG
  rw [dig11]
  by_cases hn : h < 0
  · rw [if_pos hn] at e ⊢
    rw [if_pos (by decide)]
    have := val_neg (digF_dig (hi := h) (lo := l))
    unfold V
    omega
  · rw [if_neg hn] at e ⊢
    rw [if_neg (by decide), e]
    unfold V
    omega
theorem absG_dig {h l : Int} : Dig (absG h l) := by
  unfold absG
  split
  · exact Dig.plus _ _
  · exact digF_dig
theorem abs_ref {h l : Int} (w : Wd h l) : octroiref01_Abs.f h l = some (hiW (V h l).natAbs, loW (V h l).natAbs) := by
  have e := val_absG w
  obtain ⟨a, b, c, d, f, g⟩ := val_bounds (absG_dig (h := h) (l := l))
  have hb := True.intro
  unfold octroiref01_Abs.f
  rw [if_pos ⟨w.l0, w.l1⟩]
  have x : val (absG h l) = hv (absG h l) 0 0 + 18446744073709551616 * hv (absG h l) 4 0 + 340282366920938463463374607431768211456 * topV (absG h l) := rfl
  clear hb
  have hr := inR_V w
  have hA : ((V h l).natAbs : Int) ≤ 170141183460469231731687303715884105728 := by unfold inR at hr; omega
  clear hr w
  generalize (V h l).natAbs = A at *
  generalize hv (absG h l) 0 0 = p at *
  generalize hv (absG h l) 4 0 = q at *
  generalize topV (absG h l) = r at *
  unfold hiW loW
  have e1 : q = (A : Int) / 18446744073709551616 := by omega
  have e2 : p = (A : Int) % 18446744073709551616 := by omega
  rw [e1, e2]
end Go.Proofs.YtkikekiokclmdaaDoor.S

namespace Go.Proofs.YtkikekiokclmdaaDoor.S
open Go.RowKit Go.Proofs.YtkikekiokclmdaaDoorW.PrintWords Go.Proofs.YtkikekiokclmdaaDoorW.PrintLast Go.Proofs.YtkikekiokclmdaaDoorW.PrintMore
def rdig (m : Nat) : List Int := if h : m = 0 then [] else (48 + ((m % 10 : Nat) : Int)) :: rdig (m / 10)
termination_by m
decreasing_by omega
theorem rdig_zero : rdig 0 = [] := by rw [rdig, dif_pos rfl]
theorem rdig_pos {m : Nat} (h : 0 < m) : rdig m = (48 + ((m % 10 : Nat) : Int)) :: rdig (m / 10) := by rw [rdig, dif_neg (by omega)]
theorem rdig_len (n m : Nat) (h : m < 10 ^ n) : (rdig m).length ≤ n := by
  induction n generalizing m with
  | zero => have : m = 0 := by simpa using h
            subst this; rw [rdig_zero]; exact Nat.zero_le _
  | succ n ih =>
    rcases Nat.eq_zero_or_pos m with rfl | hp
    · rw [rdig_zero]; exact Nat.zero_le _
    · rw [rdig_pos hp, List.length_cons]
      have := ih (m / 10) (by rw [Nat.pow_succ] at h; omega)
      omega
def toB (xs : List Int) : List UInt8 := xs.map (fun n => UInt8.ofNat n.toNat)
theorem rdig_dec (m : Nat) (h : 0 < m) : toB (rdig m).reverse = Lib.decDigits m := by
  induction m using Nat.strongRecOn with
  | _ m ih =>
    rw [rdig_pos h, List.reverse_cons, Lib.decDigits]
    by_cases h10 : m < 10
    · rw [dif_pos h10, show m / 10 = 0 by omega, rdig_zero, show m % 10 = m by omega]
      simp only [toB, List.reverse_nil, List.nil_append, List.map_cons, List.map_nil]
      congr 2
    · rw [dif_neg h10, ← ih (m / 10) (by omega) (by omega)]
      simp only [toB, List.map_append, List.map_cons, List.map_nil]
      congr 3
def Half (xs ys : List Int) (i : Nat) : Prop := ys.length = xs.length ∧ ∀ t, t < xs.length → ys[t]? = if t < i ∨ xs.length ≤ t + i then xs[xs.length - 1 - t]? else xs[t]?
theorem rd_get {xs : List Int} {i : Nat} (h : i < xs.length) : xs[i]? = some (rd xs (i : Int)) := by
  unfold rd
  rw [Int.toNat_natCast, List.getD_eq_getElem?_getD, List.getElem?_eq_getElem h]
  rfl
theorem rev_loop (xs : List Int) (hn : xs.length < 1000000) : ∀ (d : Nat) (i : Nat) (ys : List Int), Half xs ys i → d + 2 * i = xs.length ∨ (d = 0 ∧ xs.length ≤ 2 * i ∧ 2 * i ≤ xs.length + 1) → ∀ k, d + 1 ≤ k → zAK.l0 k ys (i : Int) ((xs.length : Int) - 1 - i) = some xs.reverse := by
  intro d
  induction d using Nat.strongRecOn with
  | _ d ih =>
    intro i ys hH hd k hk
    obtain ⟨k, rfl⟩ : ∃ m, k = m + 1 := ⟨k - 1, by omega⟩
    obtain ⟨hl, hv⟩ := hH
    simp only [zAK.l0]
    by_cases hc : (i : Int) < (xs.length : Int) - 1 - i
    · rw [if_pos hc, if_pos (by omega), if_pos (by omega), if_pos (by omega), if_pos (by omega)]
      obtain ⟨j, hj⟩ : ∃ j : Nat, (xs.length : Int) - 1 - i = (j : Int) := ⟨xs.length - 1 - i, by omega⟩
      rw [hj, Int.toNat_natCast, Int.toNat_natCast, show wrap64 ((i : Int) + 1) = ((i + 1 : Nat) : Int) from by rw [wrap64_def]; omega, show wrap64 ((j : Int) - 1) = (xs.length : Int) - 1 - ((i + 1 : Nat) : Int) from by rw [wrap64_def]; omega]
      have hij : i < j := by omega
      have hjl : j < xs.length := by omega
      have hji : j = xs.length - 1 - i := by omega
      refine ih (d - 2) (by omega) (i + 1) _ ⟨by simp [hl], fun t ht => ?_⟩ (by omega) k (by omega)
      have g1 := rd_get (xs := ys) (i := j) (by omega)
      have g2 := rd_get (xs := ys) (i := i) (by omega)
      have v1 := hv j hjl
      have v2 := hv i (by omega)
      rw [if_neg (by omega)] at v1 v2
      rw [List.getElem?_set, List.length_set]
      by_cases e1 : j = t
      · subst e1
        rw [if_pos rfl, if_pos (by omega), if_pos (by omega), ← g2, v2]
        congr 1
        omega
      · rw [if_neg e1, List.getElem?_set]
        by_cases e2 : i = t
        · subst e2
          rw [if_pos rfl, if_pos (by omega), if_pos (by omega), ← g1, v1]
          congr 1
        · rw [if_neg e2, hv t ht]
          by_cases e3 : t < i ∨ xs.length ≤ t + i
          · rw [if_pos e3, if_pos (by omega)]
          · rw [if_neg e3, if_neg (by omega)]
    · rw [if_neg hc]
      congr 1
      refine List.ext_getElem? fun t => ?_
      by_cases ht : t < xs.length
      · rw [hv t ht, List.getElem?_reverse ht]
        by_cases e3 : t < i ∨ xs.length ≤ t + i
        · rw [if_pos e3]
        · rw [if_neg e3]
          congr 1
          omega
      · rw [List.getElem?_eq_none (by omega), List.getElem?_eq_none (by simp; omega)]
theorem rev_f (xs : List Int) (hn : xs.length < 1000000) (k : Nat) (hk : xs.length + 1 ≤ k) : zAK.f k xs = some xs.reverse := by
  unfold zAK.f
  have h := rev_loop xs hn xs.length 0 xs ⟨rfl, fun t ht => by rw [if_neg (by omega)]⟩ (by omega) k hk
  have e : wrap64 ((xs.length : Int) - 1) = (xs.length : Int) - 1 - ((0 : Nat) : Int) := by rw [wrap64_def]; omega
  rw [e]
  exact h
end Go.Proofs.YtkikekiokclmdaaDoor.S

namespace Go.Proofs.YtkikekiokclmdaaDoor.S
open Go.RowKit Go.Proofs.YtkikekiokclmdaaDoorW.PrintWords Go.Proofs.YtkikekiokclmdaaDoorW.PrintLast Go.Proofs.YtkikekiokclmdaaDoorW.PrintMore
theorem of10 : wide_Of.f 10 = some (0, 10) := by rw [of_f 10 (by decide) (by decide)]; rfl
theorem V_zero_iff {h l : Int} (w : Wd h l) : V h l = 0 ↔ h = 0 ∧ l = 0 := by
  obtain ⟨a, b, c, d⟩ := w
  unfold V
  omega
theorem tenth {h l : Int} (w : Wd h l) {m : Nat} (hm : (V h l).natAbs = m) : inR ((V h l).tdiv 10) ∧ inR ((V h l).tmod 10) ∧ ((V h l).tdiv 10).natAbs = m / 10 ∧ ((V h l).tmod 10).natAbs = m % 10 := by
  have hr := inR_V w
  have e1 : ((V h l).tdiv 10).natAbs = m / 10 := by rw [Int.natAbs_tdiv, hm]; rfl
  have e2 : ((V h l).tmod 10).natAbs = m % 10 := by rw [Int.natAbs_tmod, hm]; rfl
  unfold inR at *
  omega
theorem dig_val {n : Int} {d : Nat} (h : n.natAbs = d) (hd : d < 10) (hn : inR n) : wide_Abs.f (hiW n) (loW n) = some (0, (d : Int)) ∧ octroiref01_Abs.f (hiW n) (loW n) = some (0, (d : Int)) := by
  have w := Wd.to hn
  rw [absW w, abs_ref w, V_to, h]
  have e1 : hiW ((d : Nat) : Int) = 0 := by unfold hiW; omega
  have e2 : loW ((d : Nat) : Int) = d := by unfold loW; omega
  rw [e1, e2]
  exact ⟨rfl, rfl⟩
theorem byte_val {d : Nat} (hd : d < 10) : (IntKind.u64.wrap (48 + (d : Int))) % 256 = 48 + (d : Int) := by rw [wrap_u64]; omega
theorem text_loop (b : Bool) : ∀ (m : Nat) (h l : Int) (acc : List Int) (k : Nat), Wd h l → (V h l).natAbs = m → acc.length + (rdig m).length < 10000 → 2 * (rdig m).length + acc.length + 4 ≤ k →
    zAV.l0 k acc b h l = some (strOfNums (acc ++ rdig m ++ (if b = true then [45] else [])).reverse) := by
  intro m
  induction m using Nat.strongRecOn with
  | _ m ih =>
    intro h l acc k w hm hlen hk
    obtain ⟨k, rfl⟩ : ∃ x, k = x + 1 := ⟨k - 1, by omega⟩
    simp only [zAV.l0]
    rcases Nat.eq_zero_or_pos m with rfl | hp
    · have hz : V h l = 0 := by omega
      obtain ⟨rfl, rfl⟩ := (V_zero_iff w).1 hz
      rw [if_neg (by decide), rdig_zero, List.append_nil]
      rw [rdig_zero] at hlen hk
      cases b with
      | true =>
        rw [if_pos rfl, if_pos rfl, if_pos (by omega), rev_f (acc ++ [45]) (by simp; omega) k (by simp at hk ⊢; omega)]
        rfl
      | false =>
        rw [if_neg (by decide), if_neg (by decide), rev_f acc (by omega) k (by simp at hk; omega), List.append_nil]
        rfl
    · have hnz : V h l ≠ 0 := by omega
      have hc : (!(h == 0) || (!(l == 0))) = true := by
        rcases Decidable.em (h = 0) with e | e
        · rcases Decidable.em (l = 0) with e2 | e2
          · exact absurd ((V_zero_iff w).2 ⟨e, e2⟩) hnz
          · simp [e2]
        · simp [e]
      rw [if_pos hc]
      obtain ⟨i1, i2, n1, n2⟩ := tenth w hm
      rw [rdig_pos hp] at hlen hk ⊢
      simp only [List.length_cons] at hlen hk
      refine Option.bind_eq_some_iff.2 ⟨_, of10, ?_⟩
      refine Option.bind_eq_some_iff.2 ⟨_, quoRem10 w k, ?_⟩
      refine Option.bind_eq_some_iff.2 ⟨_, (dig_val n2 (by omega) i2).1, ?_⟩
      rw [if_pos (by omega), byte_val (by omega)]
      have := ih (m / 10) (by omega) _ _ (acc ++ [48 + ((m % 10 : Nat) : Int)]) k (Wd.to i1) (by rw [V_to]; exact n1) (by simp; omega) (by simp; omega)
      rw [this]
      simp only [List.append_assoc, List.singleton_append, List.cons_append, List.nil_append]
def txt (n : Int) : ByteArray := ⟨(Lib.itoa n).toArray⟩
theorem txt_big {n : Int} (h : n ≠ 0) : strOfNums (rdig n.natAbs ++ (if decide (n < 0) = true then [45] else [])).reverse = txt n := by
  unfold strOfNums txt Lib.itoa
  congr 2
  have e := rdig_dec n.natAbs (by omega)
  unfold toB at e
  rw [List.reverse_append, List.map_append, e]
  by_cases hn : n < 0
  · rw [decide_eq_true hn, if_pos rfl, if_pos hn]
    rfl
  · rw [decide_eq_false hn, if_neg (by decide), if_neg hn, show n.natAbs = n.toNat from by omega]
    rfl
theorem rdig_39 {h l : Int} (w : Wd h l) : (rdig (V h l).natAbs).length ≤ 39 := by
  have hr := inR_V w
  refine rdig_len 39 _ ?_
  rw [show (10 : Nat) ^ 39 = 1000000000000000000000000000000000000000 from by decide]
  unfold inR at hr
  omega
theorem text_f {h l : Int} (w : Wd h l) (k : Nat) (hk : 100 ≤ k) : zAV.f k h l = some (txt (V h l)) := by
  unfold zAV.f wide_Int.f
  obtain ⟨a, b, c, d⟩ := w
  have w : Wd h l := ⟨a, b, c, d⟩
  by_cases hi : h = wrap64 l / 9223372036854775808
  · rw [if_pos hi]
    have e : wrap64 l = V h l := by rw [wrap64_def] at hi ⊢; unfold V; omega
    have r : -9223372036854775808 ≤ wrap64 l ∧ wrap64 l ≤ 9223372036854775807 := by rw [wrap64_def]; omega
    refine Option.bind_eq_some_iff.2 ⟨_, rfl, ?_⟩
    rw [if_pos rfl]
    refine Option.bind_eq_some_iff.2 ⟨_, if_pos ⟨rfl, r.1, r.2⟩, ?_⟩
    rw [e]
    rfl
  · rw [if_neg hi]
    refine Option.bind_eq_some_iff.2 ⟨_, rfl, ?_⟩
    rw [if_neg (by decide)]
    have hn : V h l ≠ 0 := fun e0 => by
      obtain ⟨rfl, rfl⟩ := (V_zero_iff w).1 e0
      exact hi (by rw [wrap64_def]; decide)
    have h39 := rdig_39 w
    rw [text_loop (decide (h < 0)) _ h l [] k w rfl (by simp; omega) (by simp; omega), List.nil_append, ← txt_big hn, show decide (h < 0) = decide (V h l < 0) from decide_eq_decide.2 (by rw [V_neg_iff w])]
end Go.Proofs.YtkikekiokclmdaaDoor.S
