/- What the proof needs, part 15 of 18. DeciMoney answers true for every list of numbers and every list of strings; the input reads as it did. -/
import Derived.Lib.IndexLaws
import Derived.Lib.ParseIntBCases
import Derived.Test.YtkikekiokclmdaaGreatDoorBDeciMoney14
import Derived.Test.YtkikekiokclmdaaGreatDoorBDeciMoney13
import Derived.Test.YtkikekiokclmdaaGreatDoorBDeciMoney11
import Derived.Test.YtkikekiokclmdaaGreatDoorBDeciMoney5
set_option linter.unusedVariables false
set_option linter.unusedSimpArgs false
namespace Go.Proofs.YtkikekiokclmdaaGreatDoor.S
open Go.RowKit Go.Proofs.YtkikekiokclmdaaGreatDoorW.PrintWords Go.Proofs.YtkikekiokclmdaaGreatDoorW.PrintLast Go.Proofs.YtkikekiokclmdaaGreatDoorW.PrintMore
def outI (n : Int) : Int × Int := if -9223372036854775808 ≤ n ∧ n < 9223372036854775808 then (n, 0) else (0, 10)
structure MF (s : List UInt8) (b : Bool) (w : List UInt8) (r1 r2 : UInt8) : Prop where
  e : s = (if b = true then [45] else []) ++ w ++ [46, r1, r2]
  p : plainL w = true
  d1 : isD r1 = true
  d2 : isD r2 = true
  n : ¬ (b = true ∧ w = [48] ∧ r1 = 48 ∧ r2 = 48)
def mval (b : Bool) (w : List UInt8) (r1 r2 : UInt8) : Int := sgn b (nvN 0 (w ++ [r1, r2]))
theorem index_first : ∀ (a r : List UInt8), (∀ x ∈ a, x ≠ 46) → Lib.indexByte (a ++ 46 :: r) 46 = (a.length : Int)
  | [], r, _ => rfl
  | x :: a, r, h => by
    have ih := index_first a r (fun y hy => h y (List.mem_cons_of_mem _ hy))
    have hx := h x (List.mem_cons_self ..)
    rw [List.cons_append]
    unfold Lib.indexByte
    rw [if_neg (by rw [beq_iff_eq]; exact hx), ih, if_neg (by rw [beq_iff_eq]; omega)]
    simp
theorem plain_parts {w : List UInt8} (h : plainL w = true) : w.all isD = true ∧ w ≠ [] := by
  unfold plainL rowL at h
  simp only [Bool.and_eq_true, Bool.not_eq_true', List.isEmpty_eq_false_iff] at h
  exact ⟨h.1.1, h.1.2⟩
theorem isD_ne {x : UInt8} (h : isD x = true) : x ≠ 45 ∧ x ≠ 46 ∧ x ≠ 43 := by
  rw [isD_iff] at h
  refine ⟨?_, ?_, ?_⟩ <;> intro e <;> rw [e] at h
  · exact absurd h.1 (by decide)
  · exact absurd h.1 (by decide)
  · exact absurd h.1 (by decide)
theorem parseU : ∀ (l : List UInt8) (acc : Nat), l.all isD = true → acc ≤ 18446744073709551615 → Lib.parseUintM 18446744073709551615 acc l = if nvN acc l ≤ 18446744073709551615 then .ok (nvN acc l) else .range
  | [], acc, _, ha => by
    show Lib.NumEnd.ok acc = _
    rw [if_pos (show nvN acc [] ≤ _ from ha)]; rfl
  | x :: l, acc, h, ha => by
    rw [List.all_cons, Bool.and_eq_true] at h
    have hx := isD_iff.1 h.1
    have hm := nv_mono l (10 * acc + (x.toNat - 48))
    have hn : nvN acc (x :: l) = nvN (10 * acc + (x.toNat - 48)) l := rfl
    rw [hn]
    unfold Lib.parseUintM
    rw [if_pos hx, show acc * 10 + (x.toNat - 48) = 10 * acc + (x.toNat - 48) from by omega]
    by_cases h1 : 1844674407370955162 ≤ acc
    · rw [if_pos h1, if_neg (by omega)]
    · rw [if_neg h1]
      by_cases h2 : 18446744073709551615 < 10 * acc + (x.toNat - 48)
      · rw [if_pos h2, if_neg (by omega)]
      · rw [if_neg h2]
        exact parseU l _ h.2 (by omega)
theorem parseI (b : Bool) (l : List UInt8) (h : l.all isD = true) (hne : l ≠ []) : Lib.parseIntB 64 ((if b = true then [45] else []) ++ l) = if -9223372036854775808 ≤ sgn b (nvN 0 l) ∧ sgn b (nvN 0 l) < 9223372036854775808 then .ok (sgn b (nvN 0 l)) else .range := by
  have hu : Lib.parseUintB 64 l = if nvN 0 l ≤ 18446744073709551615 then .ok (nvN 0 l) else .range := by
    unfold Lib.parseUintB
    rw [if_neg hne]
    exact parseU l 0 h (by decide)
  have e63 : (2 : Nat) ^ (64 - 1) = 9223372036854775808 := by decide
  cases b with
  | true =>
    rw [if_pos rfl, List.singleton_append, Lib.parseIntB_minus, hu, e63]
    unfold sgn
    rw [if_pos rfl]
    by_cases h1 : nvN 0 l ≤ 18446744073709551615
    · rw [if_pos h1]
      simp only [Lib.signedC]
      by_cases h2 : 9223372036854775808 < nvN 0 l
      · rw [if_pos h2, if_neg (by omega)]
      · rw [if_neg h2, if_pos (by omega)]
    · rw [if_neg h1, if_neg (by omega)]; rfl
  | false =>
    rw [if_neg (by decide), List.nil_append]
    obtain ⟨x, xs, rfl⟩ := List.exists_cons_of_ne_nil hne
    have hx : isD x = true := by rw [List.all_cons, Bool.and_eq_true] at h; exact h.1
    have hxx := isD_iff.1 hx
    rw [Lib.parseIntB_plain _ _ _ (by omega) (by omega), hu, e63]
    unfold sgn
    simp only [Bool.false_eq_true, if_false]
    by_cases h1 : nvN 0 (x :: xs) ≤ 18446744073709551615
    · rw [if_pos h1]
      simp only [Lib.signlessC]
      by_cases h2 : 9223372036854775808 ≤ nvN 0 (x :: xs)
      · rw [if_pos h2, if_neg (by omega)]
      · rw [if_neg h2, if_pos (by omega)]
    · rw [if_neg h1, if_neg (by omega)]; rfl
theorem coinsT_bs (b : Bool) (d r : ByteArray) : bs (coinsT b d r) = (if b = true then [45] else []) ++ bs d ++ bs r := by
  unfold coinsT
  rw [bs_app, bs_app]
  cases b <;> rfl
theorem cut_some {s : ByteArray} (h : cutC s 46 = true) : bs s = bs (cutA s 46) ++ 46 :: bs (cutB s 46) := by
  unfold cutC at h
  rw [decide_eq_true_iff] at h
  unfold cutA cutB
  rw [if_pos h, if_pos h]
  obtain ⟨o, ho⟩ : ∃ o : Nat, Lib.indexByte s.data.toList 46 = o := ⟨_, (Int.toNat_of_nonneg h).symm⟩
  rw [ho, Int.toNat_natCast]
  obtain ⟨h1, h2⟩ := Lib.indexByte_some ho
  have hlt := (List.getElem?_eq_some_iff.1 h1).1
  have hg := (List.getElem?_eq_some_iff.1 h1).2
  have e1 : bs (s.extract 0 o) = (bs s).take o := by
    show (s.extract 0 o).data.toList = _
    rw [Lib.extract_data, List.drop_zero, Nat.sub_zero]; rfl
  have e2 : bs (s.extract (o + 1) s.size) = (bs s).drop (o + 1) := by
    show (s.extract (o + 1) s.size).data.toList = _
    rw [Lib.extract_data, List.take_of_length_le (by rw [List.length_drop, ← Lib.size_eq]; omega)]; rfl
  rw [e1, e2]
  change o < (bs s).length at hlt
  change (bs s)[o] = 46 at hg
  conv => lhs; rw [← List.take_append_drop o (bs s), List.drop_eq_getElem_cons hlt, hg]
theorem cut_at {s : ByteArray} {a r : List UInt8} (e : bs s = a ++ 46 :: r) (h : ∀ x ∈ a, x ≠ 46) : cutC s 46 = true ∧ bs (cutA s 46) = a ∧ bs (cutB s 46) = r := by
  have hi : Lib.indexByte s.data.toList 46 = (a.length : Int) := by
    show Lib.indexByte (bs s) 46 = _
    rw [e]; exact index_first a r h
  have hc : cutC s 46 = true := by unfold cutC; rw [hi]; exact decide_eq_true (by omega)
  have hs := cut_some hc
  refine ⟨hc, ?_⟩
  have ea : bs (cutA s 46) = a := by
    unfold cutA
    rw [hi, if_pos (by omega), Int.toNat_natCast]
    show (s.extract 0 a.length).data.toList = _
    rw [Lib.extract_data, List.drop_zero, Nat.sub_zero]
    show (bs s).take a.length = a
    rw [e, List.take_left]
  rw [ea, e] at hs
  have := List.append_cancel_left hs
  injection this with _ this
  exact ⟨ea, this.symm⟩
theorem sizes {s : ByteArray} (hs : s.size ≤ 140737488351300) : (cutA s 46).size ≤ s.size ∧ (cutB s 46).size ≤ s.size := by
  have e1 : ∀ i j, (s.extract i j).size ≤ s.size := by
    intro i j
    rw [← bs_len, ← bs_len]
    show (s.extract i j).data.toList.length ≤ _
    rw [Lib.extract_data]
    rw [List.length_take, List.length_drop]
    show _ ≤ s.data.toList.length
    omega
  unfold cutA cutB
  split
  · exact ⟨e1 _ _, e1 _ _⟩
  · refine ⟨Nat.le_refl _, Nat.zero_le _⟩
theorem sign_parts {b : Bool} {w : List UInt8} (h : plainL w = true) : belowL ((if b = true then [45] else []) ++ w) = b ∧ digL ((if b = true then [45] else []) ++ w) = w := by
  obtain ⟨h1, h2⟩ := plain_parts h
  cases b with
  | true => exact ⟨rfl, rfl⟩
  | false =>
    rw [if_neg (by decide), List.nil_append]
    refine dig_of_head ?_
    obtain ⟨x, xs, rfl⟩ := List.exists_cons_of_ne_nil h2
    rw [List.all_cons, Bool.and_eq_true] at h1
    intro e
    exact (isD_ne h1.1).1 (Option.some.inj e)
theorem coins_yes {s : ByteArray} (hs : s.size ≤ 140737488351300) {b : Bool} {w : List UInt8} {r1 r2 : UInt8} (h : MF (bs s) b w r1 r2) : deci_Coins.f s = some (outI (mval b w r1 r2)) := by
  obtain ⟨he, hp, hd1, hd2, hn⟩ := h
  obtain ⟨hw1, hw2⟩ := plain_parts hp
  have e : bs s = ((if b = true then [45] else []) ++ w) ++ 46 :: [r1, r2] := he
  obtain ⟨hc, hA, hB⟩ := cut_at e (by
    intro x hx
    rcases List.mem_append.1 hx with hx | hx
    · cases b
      · simp at hx
      · rw [if_pos rfl, List.mem_singleton] at hx; rw [hx]; decide
    · exact (isD_ne (List.all_eq_true.1 hw1 x hx)).2.1)
  obtain ⟨z1, z2⟩ := sizes hs
  obtain ⟨sb_, sd⟩ := sign_parts (b := b) hp
  have zB : (cutB s 46).size = 2 := by rw [← bs_len, hB]; rfl
  have zd : (⟨w.toArray⟩ : ByteArray).size ≤ (cutA s 46).size := by rw [← bs_len, ← bs_len, bs_mk, hA, List.length_append]; omega
  unfold deci_Coins.f
  rw [if_pos (by omega)]
  unfold coinsF
  have hsg := signed_f (cutA s 46) (by omega)
  rw [hA, sb_, sd] at hsg
  refine Option.bind_eq_some_iff.2 ⟨_, hsg, ?_⟩
  rw [if_pos hc]
  refine Option.bind_eq_some_iff.2 ⟨true, ?_, ?_⟩
  · show deci_plain.f ⟨w.toArray⟩ = _
    rw [plain_f _ (by omega), bs_mk, hp]
  rw [if_pos rfl, if_pos zB]
  obtain ⟨t, ht, htd⟩ := trim_f (cutB s 46) (by omega)
  refine Option.bind_eq_some_iff.2 ⟨t, ht, ?_⟩
  have hBd : (bs (cutB s 46)).all isD = true := by rw [hB, List.all_cons, hd1, List.all_cons, hd2]; rfl
  rw [if_pos (htd.2 hBd)]
  unfold coinsI
  rw [if_neg (by
    rintro ⟨g1, g2, g3⟩
    rw [toL, bs_mk] at g2
    rw [toL, hB] at g3
    injection g3 with g3 g4
    injection g4 with g4 _
    exact hn ⟨g1, g2, g3, g4⟩), if_pos ⟨by omega, zd⟩]
  unfold coinsEnd
  have hv : (coinsT b ⟨w.toArray⟩ (cutB s 46)).data.toList = (if b = true then [45] else []) ++ (w ++ [r1, r2]) := by
    show bs _ = _
    rw [coinsT_bs, bs_mk, hB, List.append_assoc]
  rw [hv, parseI b (w ++ [r1, r2]) (by rw [List.all_append, hw1, List.all_cons, hd1, List.all_cons, hd2]; rfl) (by simp)]
  unfold mval outI
  by_cases hr : -9223372036854775808 ≤ sgn b (nvN 0 (w ++ [r1, r2])) ∧ sgn b (nvN 0 (w ++ [r1, r2])) < 9223372036854775808
  · rw [if_pos hr, if_pos hr]
  · rw [if_neg hr, if_neg hr]
theorem below_split {s : List UInt8} : s = (if belowL s = true then [45] else []) ++ digL s := by
  unfold digL
  by_cases hb : belowL s = true
  · rw [if_pos hb, if_pos hb]
    unfold belowL at hb
    rw [beq_iff_eq] at hb
    cases s with
    | nil => simp at hb
    | cons x xs => rw [List.head?_cons] at hb; rw [Option.some.inj hb]; rfl
  · rw [if_neg hb, if_neg hb]; rfl
theorem coins_no {s : ByteArray} (hs : s.size ≤ 140737488351300) (h : ∀ b w r1 r2, ¬ MF (bs s) b w r1 r2) : deci_Coins.f s = some (0, 30) := by
  obtain ⟨z1, z2⟩ := sizes hs
  unfold deci_Coins.f
  rw [if_pos (by omega)]
  unfold coinsF
  refine Option.bind_eq_some_iff.2 ⟨_, signed_f (cutA s 46) (by omega), ?_⟩
  by_cases hc : cutC s 46 = true
  · rw [if_pos hc]
    have zd : (⟨(digL (bs (cutA s 46))).toArray⟩ : ByteArray).size ≤ (cutA s 46).size := by rw [← bs_len, ← bs_len, bs_mk]; exact digL_len _
    refine Option.bind_eq_some_iff.2 ⟨_, plain_f _ (by show (⟨(digL (bs (cutA s 46))).toArray⟩ : ByteArray).size ≤ _; omega), ?_⟩
    show (if plainL (bs (⟨(digL (bs (cutA s 46))).toArray⟩ : ByteArray)) = true then _ else _) = _
    rw [bs_mk]
    by_cases hp : plainL (digL (bs (cutA s 46))) = true
    · rw [if_pos hp]
      by_cases zB : (cutB s 46).size = 2
      · rw [if_pos zB]
        obtain ⟨t, ht, htd⟩ := trim_f (cutB s 46) (by omega)
        refine Option.bind_eq_some_iff.2 ⟨t, ht, ?_⟩
        by_cases hBd : (bs (cutB s 46)).all isD = true
        · rw [if_pos (htd.2 hBd)]
          unfold coinsI
          have hl : (bs (cutB s 46)).length = 2 := by rw [bs_len]; exact zB
          obtain ⟨r1, r2, hB⟩ : ∃ r1 r2, bs (cutB s 46) = [r1, r2] := by
            match bs (cutB s 46), hl with
            | [r1, r2], _ => exact ⟨r1, r2, rfl⟩
          have hsplit := cut_some hc
          rw [hB] at hsplit hBd
          rw [below_split (s := bs (cutA s 46))] at hsplit
          rw [List.all_cons, List.all_cons, List.all_nil, Bool.and_true, Bool.and_eq_true] at hBd
          have hno := h (belowL (bs (cutA s 46))) (digL (bs (cutA s 46))) r1 r2
          have : belowL (bs (cutA s 46)) = true ∧ digL (bs (cutA s 46)) = [48] ∧ r1 = 48 ∧ r2 = 48 := by
            by_cases g : belowL (bs (cutA s 46)) = true ∧ digL (bs (cutA s 46)) = [48] ∧ r1 = 48 ∧ r2 = 48
            · exact g
            · exact absurd ⟨hsplit, hp, hBd.1, hBd.2, g⟩ hno
          rw [if_pos ⟨this.1, by rw [toL, bs_mk]; exact this.2.1, by rw [toL, hB, this.2.2.1, this.2.2.2]⟩]
        · rw [if_neg (fun g => hBd (htd.1 g))]
      · rw [if_neg zB]
    · rw [if_neg hp]
  · rw [if_neg hc]
end Go.Proofs.YtkikekiokclmdaaGreatDoor.S

namespace Go.Proofs.YtkikekiokclmdaaGreatDoor.S
open Go.RowKit Go.Proofs.YtkikekiokclmdaaGreatDoorW.PrintWords Go.Proofs.YtkikekiokclmdaaGreatDoorW.PrintLast Go.Proofs.YtkikekiokclmdaaGreatDoorW.PrintMore
theorem itoa_nat (m : Nat) : Lib.itoa (m : Int) = Lib.decDigits m := by
  unfold Lib.itoa
  rw [if_neg (by omega)]
  first | rw [Int.toNat_natCast] | rw [Int.natAbs_natCast]
theorem ref_money_f (n : Int) (h0 : -9223372036854775808 ≤ n) (h1 : n ≤ 9223372036854775807) (k : Nat) (hk : 600 ≤ k) : zAf.f k n = some ⟨(moneyL n).toArray⟩ := by
  have em : ((n.natAbs : Int)).tmod 100 = ((n.natAbs % 100 : Nat) : Int) := rfl
  have ed : IntKind.u64.wrap (((n.natAbs : Int)).tdiv 100) = ((n.natAbs / 100 : Nat) : Int) := by
    rw [show ((n.natAbs : Int)).tdiv 100 = ((n.natAbs / 100 : Nat) : Int) from rfl, wrap_u64]; omega
  have e1 : (IntKind.u64.wrap (48 + (IntKind.u64.wrap (Int.tdiv ((n.natAbs % 100 : Nat) : Int) 10)))) % 256 = ((48 + n.natAbs % 100 / 10 : Nat) : Int) := by
    rw [show Int.tdiv ((n.natAbs % 100 : Nat) : Int) 10 = ((n.natAbs % 100 / 10 : Nat) : Int) from rfl, wrap_u64, wrap_u64]; omega
  have e2 : (IntKind.u64.wrap (48 + (Int.tmod ((n.natAbs % 100 : Nat) : Int) 10))) % 256 = ((48 + n.natAbs % 100 % 10 : Nat) : Int) := by
    rw [show Int.tmod ((n.natAbs % 100 : Nat) : Int) 10 = ((n.natAbs % 100 % 10 : Nat) : Int) from rfl, wrap_u64]; omega
  have wd : Wd 0 ((n.natAbs / 100 : Nat) : Int) := ⟨by decide, by decide, by omega, by omega⟩
  have eV : txt (V 0 ((n.natAbs / 100 : Nat) : Int)) = ⟨(Lib.decDigits (n.natAbs / 100)).toArray⟩ := by
    unfold txt V
    rw [Int.zero_mul, Int.zero_add, itoa_nat]
  have hz : (txt (V 0 ((n.natAbs / 100 : Nat) : Int))).size ≤ 20 := by
    rw [eV, ← bs_len, bs_mk]; exact dec_short (by omega)
  have es : bs (strOfNums [((48 + n.natAbs % 100 / 10 : Nat) : Int), ((48 + n.natAbs % 100 % 10 : Nat) : Int)]) = twoL (n.natAbs % 100) := rfl
  have ez : (strOfNums [((48 + n.natAbs % 100 / 10 : Nat) : Int), ((48 + n.natAbs % 100 % 10 : Nat) : Int)]).size = 2 := rfl
  have z1 : (⟨#[45]⟩ : ByteArray).size = 1 := rfl
  have z2 : (⟨#[46]⟩ : ByteArray).size = 1 := rfl
  have z3 : (⟨#[]⟩ : ByteArray).size = 0 := rfl
  unfold zAf.f
  by_cases hn : n < 0
  · rw [if_pos hn, show IntKind.u64.wrap (-(IntKind.u64.wrap n)) = (n.natAbs : Int) from by rw [wrap_u64, wrap_u64]; omega, em, ed, e1, e2]
    refine Option.bind_eq_some_iff.2 ⟨_, ref_text_f wd k hk, ?_⟩
    rw [if_pos (by omega), if_pos (by rw [ByteArray.size_append]; omega)]
    refine Option.bind_eq_some_iff.2 ⟨_, rfl, ?_⟩
    rw [if_pos (by simp only [ByteArray.size_append]; omega)]
    congr 1
    apply bs_inj
    simp only [bs_app, bs_mk, es, eV]
    unfold moneyL
    rw [if_pos hn]
    try rfl
  · rw [if_neg hn, show IntKind.u64.wrap n = (n.natAbs : Int) from by rw [wrap_u64]; omega, em, ed, e1, e2]
    refine Option.bind_eq_some_iff.2 ⟨_, ref_text_f wd k hk, ?_⟩
    rw [if_pos (by omega), if_pos (by rw [ByteArray.size_append]; omega)]
    refine Option.bind_eq_some_iff.2 ⟨_, rfl, ?_⟩
    rw [if_pos (by simp only [ByteArray.size_append]; omega)]
    congr 1
    apply bs_inj
    simp only [bs_app, bs_mk, es, eV]
    unfold moneyL
    rw [if_neg hn]
    try rfl
theorem row_loop (s : ByteArray) (hs : s.size ≤ 9223372036854775806) : ∀ (n i : Nat), n + i = s.size → ∀ k, n + 1 ≤ k → zAV.l0 k s (i : Int) = some (((bs s).drop i).all isD && decide (0 < s.size))
  | 0, i, hi, k, hk => by
    obtain ⟨k, rfl⟩ : ∃ x, k = x + 1 := ⟨k - 1, by omega⟩
    simp only [zAV.l0]
    rw [if_neg (by omega), List.drop_of_length_le (by rw [bs_len]; omega), List.all_nil, Bool.true_and]
    congr 1
    rw [decide_eq_decide]; omega
  | n + 1, i, hi, k, hk => by
    obtain ⟨k, rfl⟩ : ∃ x, k = x + 1 := ⟨k - 1, by omega⟩
    simp only [zAV.l0]
    have hil : i < (bs s).length := by rw [bs_len]; omega
    have hb : bt s (i : Int) = (((bs s)[i]'hil).toNat : Int) := by
      rw [bt_bs, List.getD_eq_getElem?_getD, List.getElem?_eq_getElem hil]; rfl
    rw [if_pos (by omega), if_pos (by omega), hb, List.drop_eq_getElem_cons hil, List.all_cons, show wrap64 ((i : Int) + 1) = ((i + 1 : Nat) : Int) from by rw [wrap64_def]; omega, row_loop s hs n (i + 1) (by omega) k (by omega)]
    generalize (bs s)[i]'hil = x
    by_cases h : isD x = true
    · have h2 := isD_iff.1 h
      rw [if_neg (by omega), if_neg (by omega), h, Bool.true_and]
    · have h2 : ¬ (48 ≤ x.toNat ∧ x.toNat ≤ 57) := fun h3 => h (isD_iff.2 h3)
      rw [Bool.eq_false_iff.2 h]
      by_cases h3 : x.toNat < 48
      · rw [if_pos (by omega)]; rfl
      · rw [if_neg (by omega), if_pos (by omega)]; rfl
theorem row_f (s : ByteArray) (hs : s.size ≤ 9223372036854775806) (k : Nat) (hk : s.size + 1 ≤ k) : zAV.f k s = some (rowL (bs s)) := by
  unfold zAV.f
  refine Eq.trans (row_loop s hs s.size 0 rfl k hk) ?_
  unfold rowL
  rw [List.drop_zero, ← bs_len]
  cases bs s <;> rfl
def most (b : Bool) : Int := if b = true then 9223372036854775808 else 9223372036854775807
theorem most_b (b : Bool) : 9223372036854775807 ≤ most b ∧ most b ≤ 9223372036854775808 := by unfold most; split <;> decide
theorem outI_most (b : Bool) (v : Nat) : outI (sgn b v) = if (v : Int) ≤ most b then (sgn b v, 0) else (0, 10) := by
  unfold outI sgn most
  cases b
  · simp only [Bool.false_eq_true, if_false]
    by_cases h : (v : Int) ≤ 9223372036854775807
    · rw [if_pos h, if_pos (by omega)]
    · rw [if_neg h, if_neg (by omega)]
  · simp only [if_true]
    by_cases h : (v : Int) ≤ 9223372036854775808
    · rw [if_pos h, if_pos (by omega)]
    · rw [if_neg h, if_neg (by omega)]
theorem coins_l0 (b : Bool) (s : ByteArray) (hs : s.size ≤ 140737488351232) : ∀ (n i : Nat), n + i = s.size → ((bs s).drop i).all isD = true → ∀ (x k : Nat), n + 1 ≤ k → (x : Int) ≤ most b → zAD.l0 k b (most b) s (x : Int) (i : Int) = some (outI (sgn b (nvN x ((bs s).drop i))))
  | 0, i, hi, ha, x, k, hk, hx => by
    obtain ⟨k, rfl⟩ : ∃ x, k = x + 1 := ⟨k - 1, by omega⟩
    have hm := most_b b
    simp only [zAD.l0]
    rw [if_neg (by omega), List.drop_of_length_le (by rw [bs_len]; omega), outI_most]
    rw [show nvN x [] = x from rfl, if_pos hx]
    cases b with
    | true =>
      rw [if_pos rfl]
      unfold sgn most at *
      rw [if_pos rfl] at *
      congr 2
      rw [wrap_u64, wrap64_def]
      omega
    | false =>
      rw [if_neg (by decide)]
      unfold sgn most at *
      simp only [Bool.false_eq_true, if_false] at *
      congr 2
      rw [wrap64_def]
      omega
  | n + 1, i, hi, ha, x, k, hk, hx => by
    obtain ⟨k, rfl⟩ : ∃ x, k = x + 1 := ⟨k - 1, by omega⟩
    have hil : i < (bs s).length := by rw [bs_len]; omega
    have hb : bt s (i : Int) = (((bs s)[i]'hil).toNat : Int) := by
      rw [bt_bs, List.getD_eq_getElem?_getD, List.getElem?_eq_getElem hil]; rfl
    rw [List.drop_eq_getElem_cons hil] at ha ⊢
    rw [List.all_cons, Bool.and_eq_true] at ha
    have hd := isD_iff.1 ha.1
    simp only [zAD.l0]
    rw [if_pos (by omega), if_pos (by omega), hb]
    generalize (bs s)[i]'hil = c at *
    have hm := most_b b
    have hn : nvN x (c :: (bs s).drop (i + 1)) = nvN (10 * x + (c.toNat - 48)) ((bs s).drop (i + 1)) := rfl
    have hv := nv_mono ((bs s).drop (i + 1)) (10 * x + (c.toNat - 48))
    have ec : IntKind.u64.wrap (IntKind.u64.wrap ((c.toNat : Nat) : Int) - 48) = ((c.toNat - 48 : Nat) : Int) := by rw [wrap_u64, wrap_u64]; omega
    have et : IntKind.u64.wrap (Int.tdiv (most b) 10) = most b / 10 := by
      rw [Int.tdiv_eq_ediv_of_nonneg (by omega), wrap_u64]; omega
    rw [ec, et, hn]
    by_cases c1 : (x : Int) > most b / 10
    · rw [if_pos c1, outI_most, if_neg (by omega)]
    · rw [if_neg c1]
      have e10 : IntKind.u64.wrap (10 * (x : Int)) = 10 * (x : Int) := by rw [wrap_u64]; omega
      have em : IntKind.u64.wrap (most b - ((c.toNat - 48 : Nat) : Int)) = most b - ((c.toNat - 48 : Nat) : Int) := by rw [wrap_u64]; omega
      rw [e10, em]
      by_cases c2 : 10 * (x : Int) > most b - ((c.toNat - 48 : Nat) : Int)
      · rw [if_pos c2, outI_most, if_neg (by omega)]
      · rw [if_neg c2, show IntKind.u64.wrap (10 * (x : Int) + ((c.toNat - 48 : Nat) : Int)) = ((10 * x + (c.toNat - 48) : Nat) : Int) from by rw [wrap_u64]; omega, show wrap64 ((i : Int) + 1) = ((i + 1 : Nat) : Int) from by rw [wrap64_def]; omega]
        exact coins_l0 b s hs n (i + 1) (by omega) ha.2 _ k (by omega) (by omega)
theorem ext_bs (s : ByteArray) (i j : Nat) : bs (s.extract i j) = ((bs s).drop i).take (j - i) := by
  show (s.extract i j).data.toList = _
  rw [Lib.extract_data]; rfl
theorem nv_big : ∀ (d : List UInt8) (v : Nat), v * 10 ^ d.length ≤ nvN v d
  | [], v => by simp [nvN]
  | x :: d, v => by
    have := nv_big d (10 * v + (x.toNat - 48))
    show _ ≤ nvN (10 * v + (x.toNat - 48)) d
    rw [List.length_cons, Nat.pow_succ]
    refine Nat.le_trans ?_ this
    rw [show v * (10 ^ d.length * 10) = 10 * v * 10 ^ d.length from by rw [Nat.mul_comm (10 ^ d.length), ← Nat.mul_assoc, Nat.mul_comm v 10]]
    exact Nat.mul_le_mul_right _ (by omega)
theorem plain_big {w : List UInt8} (h : plainL w = true) (hl : 20 < w.length) : 100000000000000000000 ≤ nvN 0 w := by
  obtain ⟨h1, h2⟩ := plain_parts h
  obtain ⟨x, xs, rfl⟩ := List.exists_cons_of_ne_nil h2
  unfold plainL at h
  simp only [Bool.and_eq_true, Bool.or_eq_true, bne_iff_ne, beq_iff_eq, List.head?_cons] at h
  rw [List.all_cons, Bool.and_eq_true] at h1
  have hx := isD_iff.1 h1.1
  have hne : x.toNat ≠ 48 := fun e => by
    rcases h.2 with h3 | h3
    · exact h3 (congrArg some (u8_eq.2 e))
    · rw [h3] at hl; simp at hl
  have := nv_big xs (10 * 0 + (x.toNat - 48))
  rw [List.length_cons] at hl
  have hp : 10 ^ 20 ≤ 10 ^ xs.length := Nat.pow_le_pow_right (by decide) (by omega)
  show _ ≤ nvN (10 * 0 + (x.toNat - 48)) xs
  refine Nat.le_trans ?_ this
  calc 100000000000000000000 = 1 * 10 ^ 20 := by decide
    _ ≤ (10 * 0 + (x.toNat - 48)) * 10 ^ xs.length := Nat.mul_le_mul (by omega) hp
theorem coins_j3 (s x5 : ByteArray) (hs : s.size ≤ 140737488351232) (b : Bool) (m : Nat) (D : List UInt8) (r1 r2 : UInt8) (hm : s.size = m + 3) (e5 : bs x5 = D) (h5 : x5.size + 3 ≤ s.size) (e2 : bs (s.extract (m + 1) s.size) = [r1, r2]) (hD : D.all isD = true) (d1 : isD r1 = true) (d2 : isD r2 = true) (k : Nat) (hk : s.size + 10 ≤ k) :
    zAD.j3 k s (s.size : Int) x5 b (most b) = some (outI (mval b D r1 r2)) := by
  obtain ⟨k, rfl⟩ : ∃ x, k = x + 1 := ⟨k - 1, by omega⟩
  simp only [zAD.j3]
  have w2 : wrap64 ((s.size : Int) - 2) = ((m + 1 : Nat) : Int) := by rw [wrap64_def]; omega
  have z2 : (s.extract (m + 1) s.size).size = 2 := by rw [← bs_len, e2]; rfl
  rw [w2, if_pos (by omega), if_pos (by omega), Int.toNat_natCast, if_pos (by omega)]
  have ea : bs (x5 ++ s.extract (m + 1) s.size) = D ++ [r1, r2] := by rw [bs_app, e5, e2]
  have hall : (D ++ [r1, r2]).all isD = true := by rw [List.all_append, hD]; simp [d1, d2]
  have hz : (x5 ++ s.extract (m + 1) s.size).size = x5.size + 2 := by rw [ByteArray.size_append, z2]
  have := coins_l0 b (x5 ++ s.extract (m + 1) s.size) (by rw [hz]; omega) (x5.size + 2) 0 (by rw [hz]) (by rw [List.drop_zero, ea]; exact hall) 0 k (by omega) (by have := most_b b; omega)
  rw [List.drop_zero, ea] at this
  exact this
theorem coins_j2 (s x5 : ByteArray) (hs : s.size ≤ 140737488351232) (b : Bool) (m : Nat) (D : List UInt8) (r1 r2 : UInt8) (hm : s.size = m + 3) (e5 : bs x5 = D) (h5 : x5.size + 3 ≤ s.size) (e2 : bs (s.extract (m + 1) s.size) = [r1, r2]) (hp : plainL D = true) (d1 : isD r1 = true) (d2 : isD r2 = true) (k : Nat) (hk : s.size + 11 ≤ k) :
    zAD.j2 k s (s.size : Int) x5 b false = some (outI (mval b D r1 r2)) := by
  obtain ⟨k, rfl⟩ : ∃ x, k = x + 1 := ⟨k - 1, by omega⟩
  simp only [zAD.j2]
  rw [if_neg (by decide)]
  by_cases hl : (x5.size : Int) > 20
  · rw [if_pos hl]
    have hb := plain_big hp (by rw [← e5, bs_len]; omega)
    have h2 := nv_mono [r1, r2] (nvN 0 D)
    have e3 : nvN 0 (D ++ [r1, r2]) = nvN (nvN 0 D) [r1, r2] := by unfold nvN; rw [List.foldl_append]
    unfold mval
    rw [outI_most, if_neg (by have := most_b b; rw [e3]; omega)]
  · rw [if_neg hl]
    have h3 := coins_j3 s x5 hs b m D r1 r2 hm e5 h5 e2 (plain_parts hp).1 d1 d2 k (by omega)
    cases b with
    | true => rw [if_pos rfl]; exact h3
    | false => rw [if_neg (by decide)]; exact h3
theorem coins_j2_no (k : Nat) (hk : 1 ≤ k) (s x5 : ByteArray) (n : Int) (b : Bool) : zAD.j2 k s n x5 b true = some (0, 30) := by
  obtain ⟨k, rfl⟩ : ∃ x, k = x + 1 := ⟨k - 1, by omega⟩
  simp only [zAD.j2]
  rw [if_pos trivial]
theorem coins_j0_no (k : Nat) (hk : 1 ≤ k) (s : ByteArray) (n : Int) : zAD.j0 k s n true = some (0, 30) := by
  obtain ⟨k, rfl⟩ : ∃ x, k = x + 1 := ⟨k - 1, by omega⟩
  simp only [zAD.j0]
  rw [if_pos trivial]
def okC (b : Bool) (D : List UInt8) (r1 r2 : UInt8) : Prop := plainL D = true ∧ ¬ (b = true ∧ D = [48] ∧ r1 = 48 ∧ r2 = 48)
theorem coins_j1 (s x5 : ByteArray) (hs : s.size ≤ 140737488351232) (b : Bool) (m : Nat) (D : List UInt8) (r1 r2 : UInt8) (hm : s.size = m + 3) (e5 : bs x5 = D) (h5 : x5.size + 3 ≤ s.size) (e2 : bs (s.extract (m + 1) s.size) = [r1, r2]) (d1 : isD r1 = true) (d2 : isD r2 = true) (k : Nat) (hk : s.size + 12 ≤ k) :
    (okC b D r1 r2 → zAD.j1 k s (s.size : Int) x5 b = some (outI (mval b D r1 r2))) ∧ (¬ okC b D r1 r2 → zAD.j1 k s (s.size : Int) x5 b = some (0, 30)) := by
  obtain ⟨k, rfl⟩ : ∃ x, k = x + 1 := ⟨k - 1, by omega⟩
  have w2 : wrap64 ((s.size : Int) - 2) = ((m + 1 : Nat) : Int) := by rw [wrap64_def]; omega
  have z5 : x5.size = D.length := by rw [← bs_len, e5]
  have hr := row_f x5 (by omega) k (by omega)
  rw [e5] at hr
  have et : (s.extract (m + 1) s.size).toList = [r1, r2] := by rw [toL]; exact e2
  have e48 : (([r1, r2] : List UInt8) == [48, 48]) = (decide (r1 = 48) && decide (r2 = 48)) := by
    by_cases h1 : r1 = 48 <;> by_cases h2 : r2 = 48 <;> simp [h1, h2]
  have fin : ∀ v, (rowL D = true → ∀ (c : Bool), c = (decide (b = true) && decide (D = [48]) && decide (r1 = 48) && decide (r2 = 48)) → (D.head? ≠ some 48 ∨ D.length ≤ 1) → zAD.j2 k s (s.size : Int) x5 b c = some v) → (rowL D = false ∨ (D.head? = some 48 ∧ 1 < D.length) → v = (0, 30)) → zAD.j1 (k + 1) s (s.size : Int) x5 b = some v := by
    intro v hy hn
    simp only [zAD.j1]
    refine Option.bind_eq_some_iff.2 ⟨_, hr, ?_⟩
    by_cases hrow : rowL D = true
    · rw [if_pos hrow]
      obtain ⟨x, xs, ex⟩ : ∃ x xs, D = x :: xs := by
        cases hD : D with
        | nil => rw [hD] at hrow; simp [rowL] at hrow
        | cons x xs => exact ⟨x, xs, rfl⟩
      have hb0 : bt x5 0 = (x.toNat : Int) := by
        have := bt_bs x5 0
        rw [e5, ex] at this
        exact this
      rw [if_pos (by rw [z5, ex, List.length_cons]; omega), hb0]
      have tail : ∀ (hh : D.head? ≠ some 48 ∨ D.length ≤ 1), (if b = true then (if x5.toList = ([48] : List UInt8) then (if 0 ≤ (wrap64 ((s.size : Int) - 2)) then (if (wrap64 ((s.size : Int) - 2)) ≤ (s.size : Int) then (zAD.j2 k s (s.size : Int) x5 b ((s.extract ((wrap64 ((s.size : Int) - 2)) : Int).toNat s.size).toList == ([48, 48] : List UInt8))) else (none)) else (none)) else (zAD.j2 k s (s.size : Int) x5 b false)) else (zAD.j2 k s (s.size : Int) x5 b false)) = some v := by
        intro hh
        by_cases hb : b = true
        · rw [if_pos hb]
          by_cases h48 : x5.toList = ([48] : List UInt8)
          · rw [if_pos h48, w2, if_pos (by omega), if_pos (by omega), Int.toNat_natCast, et]
            rw [toL, e5] at h48
            exact hy hrow _ (by rw [e48, h48, hb]; simp) hh
          · rw [if_neg h48]
            rw [toL, e5] at h48
            exact hy hrow _ (by rw [decide_eq_false h48]; simp) hh
        · rw [if_neg hb]
          exact hy hrow _ (by rw [decide_eq_false hb]; simp) hh
      by_cases h8 : (x.toNat : Int) = 48
      · rw [if_pos h8]
        have hx : x = 48 := u8_eq.2 (by have : (48 : UInt8).toNat = 48 := rfl; omega)
        by_cases h1 : (x5.size : Int) > 1
        · rw [if_pos h1, coins_j2_no k (by omega), hn (.inr ⟨by rw [ex, hx]; rfl, by omega⟩)]
        · rw [if_neg h1]
          exact tail (.inr (by omega))
      · rw [if_neg h8]
        refine tail (.inl ?_)
        rw [ex, List.head?_cons]
        intro e
        injection e with e
        rw [e] at h8
        exact h8 rfl
    · rw [if_neg hrow, coins_j2_no k (by omega), hn (.inl (by simpa using hrow))]
  have hplain : plainL D = true ↔ rowL D = true ∧ (D.head? ≠ some 48 ∨ D.length ≤ 1) := by
    unfold plainL
    rw [Bool.and_eq_true, Bool.or_eq_true, bne_iff_ne, beq_iff_eq]
    constructor
    · rintro ⟨h1, h2 | h2⟩
      · exact ⟨h1, .inl h2⟩
      · exact ⟨h1, .inr (by rw [h2]; decide)⟩
    · rintro ⟨h1, h2 | h2⟩
      · exact ⟨h1, .inl h2⟩
      · refine ⟨h1, ?_⟩
        by_cases h3 : D.head? = some 48
        · right
          cases D with
          | nil => simp at h3
          | cons x xs =>
            rw [List.head?_cons] at h3
            rw [List.length_cons] at h2
            rw [Option.some.inj h3, List.eq_nil_of_length_eq_zero (by omega : xs.length = 0)]
        · exact .inl h3
  constructor
  · rintro ⟨hp, hz⟩
    have hpp := hplain.1 hp
    refine fin _ (fun hrow c hc hh => ?_) (fun h => ?_)
    · have : c = false := by
        rw [hc]
        apply Bool.eq_false_iff.2
        intro e
        simp only [Bool.and_eq_true, decide_eq_true_eq] at e
        exact hz ⟨e.1.1.1, e.1.1.2, e.1.2, e.2⟩
      rw [this]
      exact coins_j2 s x5 hs b m D r1 r2 hm e5 h5 e2 hp d1 d2 k (by omega)
    · rcases h with h | h
      · rw [hpp.1] at h; cases h
      · rcases hpp.2 with h2 | h2
        · exact absurd h.1 h2
        · omega
  · intro hno
    refine fin _ (fun hrow c hc hh => ?_) (fun h => rfl)
    have hp : plainL D = true := hplain.2 ⟨hrow, hh⟩
    have hz : b = true ∧ D = [48] ∧ r1 = 48 ∧ r2 = 48 := Classical.byContradiction fun h => hno ⟨hp, h⟩
    have : c = true := by rw [hc]; simp [hz.1, hz.2.1, hz.2.2.1, hz.2.2.2]
    rw [this]
    exact coins_j2_no k (by omega) ..
theorem last_three {l : List UInt8} (h : 3 ≤ l.length) : ∃ P p r1 r2, l = P ++ [p, r1, r2] := by
  have hd : (l.drop (l.length - 3)).length = 3 := by rw [List.length_drop]; omega
  match hD : l.drop (l.length - 3), hd with
  | [p, r1, r2], _ => exact ⟨l.take (l.length - 3), p, r1, r2, by rw [← hD, List.take_append_drop]⟩
theorem mf_parts {P : List UInt8} {p r1 r2 : UInt8} {b : Bool} {w : List UInt8} {q1 q2 : UInt8} (h : MF (P ++ [p, r1, r2]) b w q1 q2) : p = 46 ∧ isD r1 = true ∧ isD r2 = true ∧ b = belowL P ∧ w = digL P ∧ q1 = r1 ∧ q2 = r2 ∧ okC (belowL P) (digL P) r1 r2 := by
  obtain ⟨e, hp, d1, d2, hn⟩ := h
  obtain ⟨e1, e2⟩ := List.append_inj' e rfl
  injection e2 with e2 e3
  injection e3 with e3 e4
  injection e4 with e4 _
  obtain ⟨s1, s2⟩ := sign_parts (b := b) hp
  rw [← e1] at s1 s2
  subst e3; subst e4; subst s1; subst s2
  exact ⟨e2, d1, d2, rfl, rfl, rfl, rfl, hp, hn⟩
theorem ref_coins (s : ByteArray) (hs : s.size ≤ 140737488351232) (k : Nat) (hk : s.size + 20 ≤ k) :
    (∀ b w r1 r2, MF (bs s) b w r1 r2 → zAD.f k s = some (outI (mval b w r1 r2))) ∧ ((∀ b w r1 r2, ¬ MF (bs s) b w r1 r2) → zAD.f k s = some (0, 30)) := by
  by_cases hn : (s.size : Int) < 4
  · have hf : zAD.f k s = some (0, 30) := by
      unfold zAD.f
      rw [if_pos hn]
      exact coins_j0_no k (by omega) ..
    refine ⟨fun b w r1 r2 h => ?_, fun _ => hf⟩
    exfalso
    have hl := congrArg List.length h.e
    have := List.length_pos_iff.2 (plain_parts h.p).2
    rw [bs_len] at hl
    simp only [List.length_append, List.length_cons, List.length_nil] at hl
    omega
  · obtain ⟨P, p, r1, r2, e⟩ := last_three (l := bs s) (by rw [bs_len]; omega)
    have hm : s.size = P.length + 3 := by rw [← bs_len, e]; simp
    have w3 : wrap64 ((s.size : Int) - 3) = (P.length : Int) := by rw [wrap64_def]; omega
    have w2 : wrap64 ((s.size : Int) - 2) = ((P.length + 1 : Nat) : Int) := by rw [wrap64_def]; omega
    have hb : bt s (P.length : Int) = (p.toNat : Int) := by rw [bt_bs, e]; simp
    have eP : bs (s.extract 0 P.length) = P := by rw [ext_bs, e]; simp
    have e2 : bs (s.extract (P.length + 1) s.size) = [r1, r2] := by
      rw [ext_bs, e, hm]
      simp [List.drop_append, List.drop_of_length_le]
    have hrow := row_f (s.extract (P.length + 1) s.size) (by rw [← bs_len, e2]; show (2 : Nat) ≤ _; omega) k (by rw [← bs_len, e2]; show 3 ≤ k; omega)
    rw [e2] at hrow
    have er : rowL [r1, r2] = (isD r1 && isD r2) := by simp [rowL]
    have go : ∀ v, (p = 46 → zAD.j0 k s (s.size : Int) (!(isD r1 && isD r2)) = some v) → (p ≠ 46 → v = (0, 30)) → zAD.f k s = some v := by
      intro v h1 h2
      unfold zAD.f
      rw [if_neg hn, w3, w2, if_pos (by omega), if_pos (by omega), hb]
      by_cases hp : (p.toNat : Int) = 46
      · rw [if_pos hp, if_pos (by omega), if_pos (by omega), Int.toNat_natCast]
        refine Option.bind_eq_some_iff.2 ⟨_, hrow, ?_⟩
        rw [er]
        exact h1 (u8_eq.2 (by have : (46 : UInt8).toNat = 46 := rfl; omega))
      · rw [if_neg hp, coins_j0_no k (by omega), h2 (fun e => hp (by rw [e]; rfl))]
    obtain ⟨y, ys, ey⟩ : ∃ y ys, P = y :: ys := by
      cases P with
      | nil => simp at hm; omega
      | cons y ys => exact ⟨y, ys, rfl⟩
    have zP : (s.extract 0 P.length).size = P.length := by rw [← bs_len, eP]
    have hpos : 1 ≤ P.length := by rw [ey, List.length_cons]; omega
    have hy : bt (s.extract 0 P.length) 0 = (y.toNat : Int) := by
      have := bt_bs (s.extract 0 P.length) 0
      rw [eP] at this
      rw [show (0 : Int) = ((0 : Nat) : Int) from rfl, this, ey]
      rfl
    have key : ∀ v, (isD r1 = true → isD r2 = true → ∀ (x5 : ByteArray), bs x5 = digL P → x5.size + 3 ≤ s.size → ∀ k', s.size + 12 ≤ k' → zAD.j1 k' s (s.size : Int) x5 (belowL P) = some v) → (¬ (isD r1 = true ∧ isD r2 = true) → v = (0, 30)) → zAD.j0 k s (s.size : Int) (!(isD r1 && isD r2)) = some v := by
      intro v h1 h2
      by_cases hd : isD r1 = true ∧ isD r2 = true
      · rw [hd.1, hd.2]
        obtain ⟨k, rfl⟩ : ∃ x, k = x + 1 := ⟨k - 1, by omega⟩
        simp only [zAD.j0, Bool.and_self, Bool.not_true]
        rw [if_neg (by decide), w3, if_pos (by omega), if_pos (by omega), Int.toNat_natCast, zP, if_pos (by omega), hy]
        by_cases h45 : (y.toNat : Int) = 45
        · have hyy : y = 45 := u8_eq.2 (by have : (45 : UInt8).toNat = 45 := rfl; omega)
          have hbl : belowL P = true := by rw [ey, hyy]; rfl
          rw [if_pos h45, if_pos (by omega), show ((y.toNat : Int) == 45) = belowL P from by rw [hbl, beq_iff_eq]; exact h45]
          have ed : bs ((s.extract 0 P.length).extract 1 P.length) = digL P := by
            rw [ext_bs, eP]
            unfold digL
            rw [if_pos hbl, List.take_of_length_le (by rw [List.length_drop]; omega)]
          refine h1 hd.1 hd.2 _ ed ?_ k (by omega)
          rw [← bs_len, ed]
          have := digL_len P
          omega
        · have hbl : belowL P = false := by
            unfold belowL
            rw [ey, List.head?_cons]
            refine beq_eq_false_iff_ne.2 fun e => ?_
            injection e with e
            rw [e] at h45
            exact h45 rfl
          rw [if_neg h45, show ((y.toNat : Int) == 45) = belowL P from by rw [hbl]; exact beq_eq_false_iff_ne.2 h45]
          have ed : bs (s.extract 0 P.length) = digL P := by
            rw [eP]; unfold digL; rw [hbl]; rfl
          exact h1 hd.1 hd.2 _ ed (by rw [zP]; omega) k (by omega)
      · have : (!(isD r1 && isD r2)) = true := by
          cases h3 : isD r1 <;> cases h4 : isD r2 <;> simp [h3, h4] at hd ⊢
        rw [this, coins_j0_no k (by omega), h2 hd]
    constructor
    · intro b w q1 q2 hM
      rw [e] at hM
      obtain ⟨hp, d1, d2, rfl, rfl, rfl, rfl, hok⟩ := mf_parts hM
      exact go _ (fun _ => key _ (fun _ _ x5 e5 h5 k' hk' => (coins_j1 s x5 hs _ _ _ _ _ hm e5 h5 e2 d1 d2 k' hk').1 hok) (fun h => absurd ⟨d1, d2⟩ h)) (fun h => absurd hp h)
    · intro hno
      refine go _ (fun hp => key _ (fun d1 d2 x5 e5 h5 k' hk' => (coins_j1 s x5 hs _ _ _ _ _ hm e5 h5 e2 d1 d2 k' hk').2 (fun hok => ?_)) (fun _ => rfl)) (fun _ => rfl)
      refine hno (belowL P) (digL P) r1 r2 ⟨?_, hok.1, d1, d2, hok.2⟩
      rw [e, hp]
      conv => lhs; rw [below_split (s := P)]
      try simp
theorem money_l1 (l : List ByteArray) (hl : l.length ≤ 9223372036854775806) (B : Nat) (hB : ∀ x ∈ l, x.size ≤ B) (hw : ∀ x ∈ l, x.size ≤ 140737488351232) : ∀ (n i : Nat), n + i = l.length → ∀ k, n + B + 30 ≤ k → zAJ.l1 k l (i : Int) = some true
  | 0, i, hi, k, hk => by
    obtain ⟨k, rfl⟩ : ∃ x, k = x + 1 := ⟨k - 1, by omega⟩
    simp only [zAJ.l1]
    rw [if_neg (by omega)]
  | n + 1, i, hi, k, hk => by
    obtain ⟨k, rfl⟩ : ∃ x, k = x + 1 := ⟨k - 1, by omega⟩
    simp only [zAJ.l1]
    rw [if_pos (by omega), if_pos (by omega)]
    have hm : rdOf ByteArray.empty l (i : Int) ∈ l := by
      unfold rdOf
      rw [Int.toNat_natCast, List.getD_eq_getElem?_getD, List.getElem?_eq_getElem (by omega)]
      exact List.getElem_mem _
    have w := hw _ hm
    have b := hB _ hm
    have next : zAJ.l1 k l (wrap64 ((i : Int) + 1)) = some true := by
      rw [show wrap64 ((i : Int) + 1) = ((i + 1 : Nat) : Int) from by rw [wrap64_def]; omega]
      exact money_l1 l hl B hB hw n (i + 1) (by omega) k (by omega)
    obtain ⟨r1, r2⟩ := ref_coins _ w k (by omega)
    by_cases hf : ∃ b w r1 r2, MF (bs (rdOf ByteArray.empty l (i : Int))) b w r1 r2
    · obtain ⟨b, ww, q1, q2, hM⟩ := hf
      refine Option.bind_eq_some_iff.2 ⟨_, coins_yes (by omega) hM, ?_⟩
      refine Option.bind_eq_some_iff.2 ⟨_, r1 _ _ _ _ hM, ?_⟩
      rw [if_pos rfl, if_pos rfl]
      exact next
    · have hno := fun b w r1 r2 h => hf ⟨b, w, r1, r2, h⟩
      refine Option.bind_eq_some_iff.2 ⟨_, coins_no (by omega) hno, ?_⟩
      refine Option.bind_eq_some_iff.2 ⟨_, r2 hno, ?_⟩
      rw [if_pos rfl, if_pos rfl]
      exact next
theorem money_l0 (l : List Int) (t : List ByteArray) (hl : l.length ≤ 9223372036854775806) (hr : ∀ x ∈ l, -9223372036854775808 ≤ x ∧ x ≤ 9223372036854775807) (K : Nat) (h1 : ∀ k, K ≤ k → zAJ.l1 k t 0 = some true) : ∀ (n i : Nat), n + i = l.length → ∀ k, n + K + 700 ≤ k → zAJ.l0 k l t (i : Int) = some true
  | 0, i, hi, k, hk => by
    obtain ⟨k, rfl⟩ : ∃ x, k = x + 1 := ⟨k - 1, by omega⟩
    simp only [zAJ.l0]
    rw [if_neg (by omega)]
    exact h1 k (by omega)
  | n + 1, i, hi, k, hk => by
    obtain ⟨k, rfl⟩ : ∃ x, k = x + 1 := ⟨k - 1, by omega⟩
    simp only [zAJ.l0]
    rw [if_pos (by omega), if_pos (by omega)]
    have hm : rd l (i : Int) ∈ l := by
      unfold rd
      rw [Int.toNat_natCast, List.getD_eq_getElem?_getD, List.getElem?_eq_getElem (by omega)]
      exact List.getElem_mem _
    have w := hr _ hm
    refine Option.bind_eq_some_iff.2 ⟨_, money_f _ w.1 w.2 k (by omega), ?_⟩
    refine Option.bind_eq_some_iff.2 ⟨_, ref_money_f _ w.1 w.2 k (by omega), ?_⟩
    rw [if_pos rfl, show wrap64 ((i : Int) + 1) = ((i + 1 : Nat) : Int) from by rw [wrap64_def]; omega]
    exact money_l0 l t hl hr K h1 n (i + 1) (by omega) k (by omega)
theorem most_of : ∀ (l : List ByteArray), ∃ B, ∀ x ∈ l, x.size ≤ B
  | [] => ⟨0, fun x hx => by simp at hx⟩
  | a :: l => by
    obtain ⟨B, h⟩ := most_of l
    refine ⟨a.size + B, fun x hx => ?_⟩
    rcases List.mem_cons.1 hx with rfl | hx
    · omega
    · have := h x hx; omega
theorem DeciMoney (l : List Int) (t : List ByteArray) (hl : l.length ≤ 9223372036854775806) (hr : ∀ x ∈ l, -9223372036854775808 ≤ x ∧ x ≤ 9223372036854775807) (ht : t.length ≤ 9223372036854775806) (hw : ∀ x ∈ t, x.size ≤ 140737488351232) : ∃ k, zAJ.f k l t = some true := by
  obtain ⟨B, hB⟩ := most_of t
  refine ⟨l.length + (t.length + B + 30) + 900, ?_⟩
  unfold zAJ.f
  refine Option.bind_eq_some_iff.2 ⟨_, awake_f _ (by omega), ?_⟩
  rw [if_pos rfl]
  exact money_l0 l t hl hr (t.length + B + 30) (fun k hk => money_l1 t ht B hB hw t.length 0 rfl k hk) l.length 0 rfl _ (by omega)
end Go.Proofs.YtkikekiokclmdaaGreatDoor.S
