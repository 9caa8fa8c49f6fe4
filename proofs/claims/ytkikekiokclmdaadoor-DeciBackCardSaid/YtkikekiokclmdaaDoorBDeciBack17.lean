/- What the proof needs, part 17 of 20. DeciBack answers true for every wide, number and string; the input reads as it did. -/
import Derived.Lib.IndexLaws
import Derived.Lib.ParseIntBCases
import Derived.Test.YtkikekiokclmdaaDoorBDeciBack16
import Derived.Test.YtkikekiokclmdaaDoorBDeciBack13
set_option linter.unusedVariables false
set_option linter.unusedSimpArgs false
namespace Go.Proofs.YtkikekiokclmdaaDoor.S
open Go.RowKit Go.Proofs.YtkikekiokclmdaaDoorW.PrintWords Go.Proofs.YtkikekiokclmdaaDoorW.PrintLast Go.Proofs.YtkikekiokclmdaaDoorW.PrintMore
def outI (n : Int) : Int × Int := if -9223372036854775808 ≤ n ∧ n < 9223372036854775808 then (n, 0) else (0, 10)
structure MF (s : List UInt8) (b : Bool) (w : List UInt8) (r1 r2 : UInt8) : Prop where
  e : s = (if b = true then [45] else []) ++ w ++ [46, r1, r2]
  p : plainL w = true
  d1 : isD r1 = true
  d2 : isD r2 = true
  n : ¬ (b = true ∧ w = [48] ∧ r1 = 48 ∧ r2 = 48)
def mval (b : Bool) (w : List UInt8) (r1 r2 : UInt8) : Int := sgn b (nvN 0 (w ++ [r1, r2]))
theorem index_first : ∀ (a r : List UInt8), (∀ x ∈ a, x ≠ 46) → Lib.indexByte (a ++ 46 :: r) 46 = (a.length : Int)
  | [], r, _ => rfl
  | x :: a, r, h => by
    have ih := index_first a r (fun y hy => h y (List.mem_cons_of_mem _ hy))
    have hx := h x (List.mem_cons_self ..)
    rw [List.cons_append]
    unfold Lib.indexByte
    rw [if_neg (by rw [beq_iff_eq]; exact hx), ih, if_neg (by rw [beq_iff_eq]; omega)]
    simp
theorem plain_parts {w : List UInt8} (h : plainL w = true) : w.all isD = true ∧ w ≠ [] := by
  unfold plainL rowL at h
  simp only [Bool.and_eq_true, Bool.not_eq_true', List.isEmpty_eq_false_iff] at h
  exact ⟨h.1.1, h.1.2⟩
theorem isD_ne {x : UInt8} (h : isD x = true) : x ≠ 45 ∧ x ≠ 46 ∧ x ≠ 43 := by
  rw [isD_iff] at h
  refine ⟨?_, ?_, ?_⟩ <;> intro e <;> rw [e] at h
  · exact absurd h.1 (by decide)
  · exact absurd h.1 (by decide)
  · exact absurd h.1 (by decide)
theorem parseU : ∀ (l : List UInt8) (acc : Nat), l.all isD = true → acc ≤ 18446744073709551615 → Lib.parseUintM 18446744073709551615 acc l = if nvN acc l ≤ 18446744073709551615 then .ok (nvN acc l) else .range
  | [], acc, _, ha => by
    show Lib.NumEnd.ok acc = _
    rw [if_pos (show nvN acc [] ≤ _ from ha)]; rfl
  | x :: l, acc, h, ha => by
    rw [List.all_cons, Bool.and_eq_true] at h
    have hx := isD_iff.1 h.1
    have hm := nv_mono l (10 * acc + (x.toNat - 48))
    have hn : nvN acc (x :: l) = nvN (10 * acc + (x.toNat - 48)) l := rfl
    rw [hn]
    unfold Lib.parseUintM
    rw [if_pos hx, show acc * 10 + (x.toNat - 48) = 10 * acc + (x.toNat - 48) from by omega]
    by_cases h1 : 1844674407370955162 ≤ acc
    · rw [if_pos h1, if_neg (by omega)]
    · rw [if_neg h1]
      by_cases h2 : 18446744073709551615 < 10 * acc + (x.toNat - 48)
      · rw [if_pos h2, if_neg (by omega)]
      · rw [if_neg h2]
        exact parseU l _ h.2 (by omega)
theorem parseI (b : Bool) (l : List UInt8) (h : l.all isD = true) (hne : l ≠ []) : Lib.parseIntB 64 ((if b = true then [45] else []) ++ l) = if -9223372036854775808 ≤ sgn b (nvN 0 l) ∧ sgn b (nvN 0 l) < 9223372036854775808 then .ok (sgn b (nvN 0 l)) else .range := by
  have hu : Lib.parseUintB 64 l = if nvN 0 l ≤ 18446744073709551615 then .ok (nvN 0 l) else .range := by
    unfold Lib.parseUintB
    rw [if_neg hne]
    exact parseU l 0 h (by decide)
  have e63 : (2 : Nat) ^ (64 - 1) = 9223372036854775808 := by decide
  cases b with
  | true =>
    rw [if_pos rfl, List.singleton_append, Lib.parseIntB_minus, hu, e63]
    unfold sgn
    rw [if_pos rfl]
    by_cases h1 : nvN 0 l ≤ 18446744073709551615
    · rw [if_pos h1]
      simp only [Lib.signedC]
      by_cases h2 : 9223372036854775808 < nvN 0 l
      · rw [if_pos h2, if_neg (by omega)]
      · rw [if_neg h2, if_pos (by omega)]
    · rw [if_neg h1, if_neg (by omega)]; rfl
  | false =>
    rw [if_neg (by decide), List.nil_append]
    obtain ⟨x, xs, rfl⟩ := List.exists_cons_of_ne_nil hne
    have hx : isD x = true := by rw [List.all_cons, Bool.and_eq_true] at h; exact h.1
    have hxx := isD_iff.1 hx
    rw [Lib.parseIntB_plain _ _ _ (by omega) (by omega), hu, e63]
    unfold sgn
    simp only [Bool.false_eq_true, if_false]
    by_cases h1 : nvN 0 (x :: xs) ≤ 18446744073709551615
    · rw [if_pos h1]
      simp only [Lib.signlessC]
      by_cases h2 : 9223372036854775808 ≤ nvN 0 (x :: xs)
      · rw [if_pos h2, if_neg (by omega)]
      · rw [if_neg h2, if_pos (by omega)]
    · rw [if_neg h1, if_neg (by omega)]; rfl
theorem coinsT_bs (b : Bool) (d r : ByteArray) : bs (coinsT b d r) = (if b = true then [45] else []) ++ bs d ++ bs r := by
  unfold coinsT
  rw [bs_app, bs_app]
  cases b <;> rfl
theorem cut_some {s : ByteArray} (h : cutC s 46 = true) : bs s = bs (cutA s 46) ++ 46 :: bs (cutB s 46) := by
  unfold cutC at h
  rw [decide_eq_true_iff] at h
  unfold cutA cutB
  rw [if_pos h, if_pos h]
  obtain ⟨o, ho⟩ : ∃ o : Nat, Lib.indexByte s.data.toList 46 = o := ⟨_, (Int.toNat_of_nonneg h).symm⟩
  rw [ho, Int.toNat_natCast]
  obtain ⟨h1, h2⟩ := Lib.indexByte_some ho
  have hlt := (List.getElem?_eq_some_iff.1 h1).1
  have hg := (List.getElem?_eq_some_iff.1 h1).2
  have e1 : bs (s.extract 0 o) = (bs s).take o := by
    show (s.extract 0 o).data.toList = _
    rw [Lib.extract_data, List.drop_zero, Nat.sub_zero]; rfl
  have e2 : bs (s.extract (o + 1) s.size) = (bs s).drop (o + 1) := by
    show (s.extract (o + 1) s.size).data.toList = _
    rw [Lib.extract_data, List.take_of_length_le (by rw [List.length_drop, ← Lib.size_eq]; omega)]; rfl
  rw [e1, e2]
  change o < (bs s).length at hlt
  change (bs s)[o] = 46 at hg
  conv => lhs; rw [← List.take_append_drop o (bs s), List.drop_eq_getElem_cons hlt, hg]
theorem cut_at {s : ByteArray} {a r : List UInt8} (e : bs s = a ++ 46 :: r) (h : ∀ x ∈ a, x ≠ 46) : cutC s 46 = true ∧ bs (cutA s 46) = a ∧ bs (cutB s 46) = r := by
  have hi : Lib.indexByte s.data.toList 46 = (a.length : Int) := by
    show Lib.indexByte (bs s) 46 = _
    rw [e]; exact index_first a r h
  have hc : cutC s 46 = true := by unfold cutC; rw [hi]; exact decide_eq_true (by omega)
  have hs := cut_some hc
  refine ⟨hc, ?_⟩
  have ea : bs (cutA s 46) = a := by
    unfold cutA
    rw [hi, if_pos (by omega), Int.toNat_natCast]
    show (s.extract 0 a.length).data.toList = _
    rw [Lib.extract_data, List.drop_zero, Nat.sub_zero]
    show (bs s).take a.length = a
    rw [e, List.take_left]
  rw [ea, e] at hs
  have := List.append_cancel_left hs
  injection this with _ this
  exact ⟨ea, this.symm⟩
theorem sizes {s : ByteArray} (hs : s.size ≤ 140737488351300) : (cutA s 46).size ≤ s.size ∧ (cutB s 46).size ≤ s.size := by
  have e1 : ∀ i j, (s.extract i j).size ≤ s.size := by
    intro i j
    rw [← bs_len, ← bs_len]
    show (s.extract i j).data.toList.length ≤ _
    rw [Lib.extract_data]
    rw [List.length_take, List.length_drop]
    show _ ≤ s.data.toList.length
    omega
  unfold cutA cutB
  split
  · exact ⟨e1 _ _, e1 _ _⟩
  · refine ⟨Nat.le_refl _, Nat.zero_le _⟩
theorem sign_parts {b : Bool} {w : List UInt8} (h : plainL w = true) : belowL ((if b = true then [45] else []) ++ w) = b ∧ digL ((if b = true then [45] else []) ++ w) = w := by
  obtain ⟨h1, h2⟩ := plain_parts h
  cases b with
  | true => exact ⟨rfl, rfl⟩
  | false =>
    rw [if_neg (by decide), List.nil_append]
    refine dig_of_head ?_
    obtain ⟨x, xs, rfl⟩ := List.exists_cons_of_ne_nil h2
    rw [List.all_cons, Bool.and_eq_true] at h1
    intro e
    exact (isD_ne h1.1).1 (Option.some.inj e)
theorem coins_yes {s : ByteArray} (hs : s.size ≤ 140737488351300) {b : Bool} {w : List UInt8} {r1 r2 : UInt8} (h : MF (bs s) b w r1 r2) : deci_Coins.f s = some (outI (mval b w r1 r2)) := by
  obtain ⟨he, hp, hd1, hd2, hn⟩ := h
  obtain ⟨hw1, hw2⟩ := plain_parts hp
  have e : bs s = ((if b = true then [45] else []) ++ w) ++ 46 :: [r1, r2] := he
  obtain ⟨hc, hA, hB⟩ := cut_at e (by
    intro x hx
    rcases List.mem_append.1 hx with hx | hx
    · cases b
      · simp at hx
      · rw [if_pos rfl, List.mem_singleton] at hx; rw [hx]; decide
    · exact (isD_ne (List.all_eq_true.1 hw1 x hx)).2.1)
  obtain ⟨z1, z2⟩ := sizes hs
  obtain ⟨sb_, sd⟩ := sign_parts (b := b) hp
  have zB : (cutB s 46).size = 2 := by rw [← bs_len, hB]; rfl
  have zd : (⟨w.toArray⟩ : ByteArray).size ≤ (cutA s 46).size := by rw [← bs_len, ← bs_len, bs_mk, hA, List.length_append]; omega
  unfold deci_Coins.f
  rw [if_pos (by omega)]
  unfold coinsF
  have hsg := signed_f (cutA s 46) (by omega)
  rw [hA, sb_, sd] at hsg
  refine Option.bind_eq_some_iff.2 ⟨_, hsg, ?_⟩
  rw [if_pos hc]
  refine Option.bind_eq_some_iff.2 ⟨true, ?_, ?_⟩
  · show deci_plain.f ⟨w.toArray⟩ = _
    rw [plain_f _ (by omega), bs_mk, hp]
  rw [if_pos rfl, if_pos zB]
  obtain ⟨t, ht, htd⟩ := trim_f (cutB s 46) (by omega)
  refine Option.bind_eq_some_iff.2 ⟨t, ht, ?_⟩
  have hBd : (bs (cutB s 46)).all isD = true := by rw [hB, List.all_cons, hd1, List.all_cons, hd2]; rfl
  rw [if_pos (htd.2 hBd)]
  unfold coinsI
  rw [if_neg (by
    rintro ⟨g1, g2, g3⟩
    rw [toL, bs_mk] at g2
    rw [toL, hB] at g3
    injection g3 with g3 g4
    injection g4 with g4 _
    exact hn ⟨g1, g2, g3, g4⟩), if_pos ⟨by omega, zd⟩]
  unfold coinsEnd
  have hv : (coinsT b ⟨w.toArray⟩ (cutB s 46)).data.toList = (if b = true then [45] else []) ++ (w ++ [r1, r2]) := by
    show bs _ = _
    rw [coinsT_bs, bs_mk, hB, List.append_assoc]
  rw [hv, parseI b (w ++ [r1, r2]) (by rw [List.all_append, hw1, List.all_cons, hd1, List.all_cons, hd2]; rfl) (by simp)]
  unfold mval outI
  by_cases hr : -9223372036854775808 ≤ sgn b (nvN 0 (w ++ [r1, r2])) ∧ sgn b (nvN 0 (w ++ [r1, r2])) < 9223372036854775808
  · rw [if_pos hr, if_pos hr]
  · rw [if_neg hr, if_neg hr]
theorem below_split {s : List UInt8} : s = (if belowL s = true then [45] else []) ++ digL s := by
  unfold digL
  by_cases hb : belowL s = true
  · rw [if_pos hb, if_pos hb]
    unfold belowL at hb
    rw [beq_iff_eq] at hb
    cases s with
    | nil => simp at hb
    | cons x xs => rw [List.head?_cons] at hb; rw [Option.some.inj hb]; rfl
  · rw [if_neg hb, if_neg hb]; rfl
theorem coins_no {s : ByteArray} (hs : s.size ≤ 140737488351300) (h : ∀ b w r1 r2, ¬ MF (bs s) b w r1 r2) : deci_Coins.f s = some (0, 30) := by
  obtain ⟨z1, z2⟩ := sizes hs
  unfold deci_Coins.f
  rw [if_pos (by omega)]
  unfold coinsF
  refine Option.bind_eq_some_iff.2 ⟨_, signed_f (cutA s 46) (by omega), ?_⟩
  by_cases hc : cutC s 46 = true
  · rw [if_pos hc]
    have zd : (⟨(digL (bs (cutA s 46))).toArray⟩ : ByteArray).size ≤ (cutA s 46).size := by rw [← bs_len, ← bs_len, bs_mk]; exact digL_len _
    refine Option.bind_eq_some_iff.2 ⟨_, plain_f _ (by show (⟨(digL (bs (cutA s 46))).toArray⟩ : ByteArray).size ≤ _; omega), ?_⟩
    show (if plainL (bs (⟨(digL (bs (cutA s 46))).toArray⟩ : ByteArray)) = true then _ else _) = _
    rw [bs_mk]
    by_cases hp : plainL (digL (bs (cutA s 46))) = true
    · rw [if_pos hp]
      by_cases zB : (cutB s 46).size = 2
      · rw [if_pos zB]
        obtain ⟨t, ht, htd⟩ := trim_f (cutB s 46) (by omega)
        refine Option.bind_eq_some_iff.2 ⟨t, ht, ?_⟩
        by_cases hBd : (bs (cutB s 46)).all isD = true
        · rw [if_pos (htd.2 hBd)]
          unfold coinsI
          have hl : (bs (cutB s 46)).length = 2 := by rw [bs_len]; exact zB
          obtain ⟨r1, r2, hB⟩ : ∃ r1 r2, bs (cutB s 46) = [r1, r2] := by
            match bs (cutB s 46), hl with
            | [r1, r2], _ => exact ⟨r1, r2, rfl⟩
          have hsplit := cut_some hc
          rw [hB] at hsplit hBd
          rw [below_split (s := bs (cutA s 46))] at hsplit
          rw [List.all_cons, List.all_cons, List.all_nil, Bool.and_true, Bool.and_eq_true] at hBd
          have hno := h (belowL (bs (cutA s 46))) (digL (bs (cutA s 46))) r1 r2
          have : belowL (bs (cutA s 46)) = true ∧ digL (bs (cutA s 46)) = [48] ∧ r1 = 48 ∧ r2 = 48 := by
            by_cases g : belowL (bs (cutA s 46)) = true ∧ digL (bs (cutA s 46)) = [48] ∧ r1 = 48 ∧ r2 = 48
            · exact g
            · exact absurd ⟨hsplit, hp, hBd.1, hBd.2, g⟩ hno
          rw [if_pos ⟨this.1, by rw [toL, bs_mk]; exact this.2.1, by rw [toL, hB, this.2.2.1, this.2.2.2]⟩]
        · rw [if_neg (fun g => hBd (htd.1 g))]
      · rw [if_neg zB]
    · rw [if_neg hp]
  · rw [if_neg hc]
theorem two_digits {r : Nat} (h : r < 100) : isD (UInt8.ofNat (48 + r / 10)) = true ∧ isD (UInt8.ofNat (48 + r % 10)) = true := by
  rw [isD_iff, isD_iff, u8_of (by omega), u8_of (by omega)]; omega
theorem nv_two (v : Nat) (w : List UInt8) (r1 r2 : UInt8) : nvN v (w ++ [r1, r2]) = 100 * nvN v w + 10 * (r1.toNat - 48) + (r2.toNat - 48) := by
  rw [show w ++ [r1, r2] = (w ++ [r1]) ++ [r2] from by simp, nv_snoc, nv_snoc]; omega
theorem money_form (n : Int) : ∃ b w r1 r2, MF (moneyL n) b w r1 r2 ∧ mval b w r1 r2 = n := by
  have htwo := two_digits (r := n.natAbs % 100) (by omega)
  have hval : nvN 0 (Lib.decDigits (n.natAbs / 100) ++ [UInt8.ofNat (48 + n.natAbs % 100 / 10), UInt8.ofNat (48 + n.natAbs % 100 % 10)]) = n.natAbs := by
    rw [nv_two, (dec_row _).2.2.1, u8_of (by omega), u8_of (by omega)]; omega
  refine ⟨decide (n < 0), Lib.decDigits (n.natAbs / 100), UInt8.ofNat (48 + n.natAbs % 100 / 10), UInt8.ofNat (48 + n.natAbs % 100 % 10), ⟨?_, plain_dec _, htwo.1, htwo.2, ?_⟩, ?_⟩
  · unfold moneyL twoL
    by_cases hn : n < 0
    · rw [if_pos hn, if_pos (decide_eq_true hn)]; simp
    · rw [if_neg hn, if_neg (by rw [decide_eq_true_iff]; exact hn)]; simp
  · rintro ⟨g1, g2, g3, g4⟩
    rw [g2, g3, g4] at hval
    have : nvN 0 ([48] ++ [48, 48]) = 0 := by decide
    rw [this] at hval
    rw [decide_eq_true_iff] at g1
    omega
  · unfold mval
    rw [hval, sgn_abs]
theorem form_money {s : List UInt8} {b : Bool} {w : List UInt8} {r1 r2 : UInt8} (h : MF s b w r1 r2) : moneyL (mval b w r1 r2) = s := by
  obtain ⟨he, hp, hd1, hd2, hn⟩ := h
  rw [isD_iff] at hd1 hd2
  have hv := nv_two 0 w r1 r2
  have hc := dec_canon _ _ rfl hp
  have ha : (mval b w r1 r2).natAbs = nvN 0 (w ++ [r1, r2]) := by unfold mval sgn; split <;> omega
  have hs : (mval b w r1 r2 < 0) = (b = true) := by
    apply propext
    constructor
    · intro hlt
      cases b
      · unfold mval sgn at hlt; rw [if_neg (by decide)] at hlt; omega
      · rfl
    · intro hb
      unfold mval sgn
      rw [if_pos hb]
      rcases Nat.eq_zero_or_pos (nvN 0 (w ++ [r1, r2])) with hz | hz
      · exfalso
        rw [hz] at hv
        have hw : nvN 0 w = 0 := by omega
        rw [hw, Lib.decDigits_one (by decide)] at hc
        exact hn ⟨hb, hc.symm, u8_eq.2 (by show r1.toNat = 48; omega), u8_eq.2 (by show r2.toNat = 48; omega)⟩
      · omega
  have ex : ∀ (x : UInt8) (y : Nat), y = x.toNat → UInt8.ofNat y = x := by intro x y hy; rw [hy, UInt8.ofNat_toNat]
  unfold moneyL twoL
  rw [ha, show nvN 0 (w ++ [r1, r2]) / 100 = nvN 0 w from by omega, hc, ex r1 _ (by omega), ex r2 _ (by omega), he]
  simp only [hs]
  simp
end Go.Proofs.YtkikekiokclmdaaDoor.S

namespace Go.Proofs.YtkikekiokclmdaaDoor.S
open Go.RowKit Go.Proofs.YtkikekiokclmdaaDoorW.PrintWords Go.Proofs.YtkikekiokclmdaaDoorW.PrintLast Go.Proofs.YtkikekiokclmdaaDoorW.PrintMore
theorem parse_back (n : Int) (h : inR n) : parseL (Lib.itoa n) = (hiW n, loW n, 0) := by
  unfold parseL
  rw [if_pos (itoa_parts n).2.2, itoa_val]
  unfold outW
  rw [if_pos h]
theorem back_j1 (s : ByteArray) (hs : s.size ≤ 140737488351232) (k : Nat) (hk : 2 ≤ k) : zAF.j1 k s false = some true := by
  obtain ⟨k, rfl⟩ : ∃ x, k = x + 1 := ⟨k - 1, by omega⟩
  simp only [zAF.j1]
  rw [if_neg (by decide)]
  by_cases hf : ∃ b w r1 r2, MF (bs s) b w r1 r2
  · obtain ⟨b, w, r1, r2, hm⟩ := hf
    refine Option.bind_eq_some_iff.2 ⟨_, coins_yes (by omega) hm, ?_⟩
    unfold outI
    by_cases hr : -9223372036854775808 ≤ mval b w r1 r2 ∧ mval b w r1 r2 < 9223372036854775808
    · rw [if_pos hr, if_pos rfl]
      refine Option.bind_eq_some_iff.2 ⟨_, money_f _ hr.1 (by omega) k (by omega), ?_⟩
      rw [toL, toL, bs_mk, form_money hm, if_pos rfl]
    · rw [if_neg hr, if_neg (by decide), if_neg (by decide), if_pos rfl]; rfl
  · refine Option.bind_eq_some_iff.2 ⟨_, coins_no (by omega) (fun b w r1 r2 h => hf ⟨b, w, r1, r2, h⟩), ?_⟩
    rw [if_neg (by decide), if_pos rfl]; rfl
theorem back_j0 (s : ByteArray) (hs : s.size ≤ 140737488351232) (k : Nat) (hk : 2 * s.size + 200 ≤ k) : zAF.j0 k s false = some true := by
  obtain ⟨k, rfl⟩ : ∃ x, k = x + 1 := ⟨k - 1, by omega⟩
  simp only [zAF.j0]
  rw [if_neg (by decide)]
  refine Option.bind_eq_some_iff.2 ⟨_, parse_f s (by omega) k (by omega), ?_⟩
  unfold parseL
  by_cases ho : okL (bs s) = true
  · rw [if_pos ho]
    unfold outW
    by_cases hr : inR (valL (bs s))
    · rw [if_pos hr, if_pos rfl]
      refine Option.bind_eq_some_iff.2 ⟨_, text_f (Wd.to hr) k (by omega), ?_⟩
      rw [V_to, if_pos (by rw [toL, toL]; unfold txt; rw [bs_mk, ok_itoa ho])]
      exact back_j1 s hs k (by omega)
    · rw [if_neg hr, if_neg (by decide), if_neg (by decide), if_pos rfl]
      exact back_j1 s hs k (by omega)
  · rw [if_neg ho, if_neg (by decide), if_pos rfl]
    exact back_j1 s hs k (by omega)
theorem DeciBack (a0_0 a0_1 a1 : Int) (a2 : ByteArray) (w : Wd a0_0 a0_1) (h0 : -9223372036854775808 ≤ a1) (h1 : a1 ≤ 9223372036854775807) (hs : a2.size ≤ 140737488351232) : ∃ k, zAF.f k a0_0 a0_1 a1 a2 = some true := by
  refine ⟨2 * a2.size + 300, ?_⟩
  unfold zAF.f
  refine Option.bind_eq_some_iff.2 ⟨_, awake_f _ (by omega), ?_⟩
  rw [if_pos rfl]
  have hr := inR_V w
  have hl := itoa_len hr
  have hb : bs (txt (V a0_0 a0_1)) = Lib.itoa (V a0_0 a0_1) := by unfold txt; rw [bs_mk]
  have hz : (txt (V a0_0 a0_1)).size ≤ 40 := by rw [← bs_len, hb]; exact hl
  refine Option.bind_eq_some_iff.2 ⟨_, text_f w _ (by omega), ?_⟩
  refine Option.bind_eq_some_iff.2 ⟨_, parse_f _ (by omega) _ (by omega), ?_⟩
  rw [hb, parse_back _ hr, (to_V w).1, (to_V w).2]
  refine Option.bind_eq_some_iff.2 ⟨_, money_f a1 h0 h1 _ (by omega), ?_⟩
  obtain ⟨b, ww, r1, r2, hm, hv⟩ := money_form a1
  have hmz : (⟨(moneyL a1).toArray⟩ : ByteArray).size ≤ 140737488351300 := by
    rw [← bs_len, bs_mk]
    unfold moneyL twoL
    have := dec_short (u := a1.natAbs / 100) (by omega)
    simp only [List.length_append, List.length_cons, List.length_nil]
    split <;> simp <;> omega
  have hc := coins_yes (s := ⟨(moneyL a1).toArray⟩) hmz (b := b) (w := ww) (r1 := r1) (r2 := r2) (by rw [bs_mk]; exact hm)
  rw [hv] at hc
  have eo : outI a1 = (a1, 0) := by unfold outI; rw [if_pos (by omega)]
  rw [eo] at hc
  refine Option.bind_eq_some_iff.2 ⟨_, hc, ?_⟩
  rw [if_pos rfl, if_pos rfl]
  have e1 : (!(a0_0 == a0_0) || !(a0_1 == a0_1)) = false := by simp
  rw [if_neg (by rw [e1]; decide), show (a1 != a1) = false from by simp]
  exact back_j0 a2 hs _ (by omega)
end Go.Proofs.YtkikekiokclmdaaDoor.S
