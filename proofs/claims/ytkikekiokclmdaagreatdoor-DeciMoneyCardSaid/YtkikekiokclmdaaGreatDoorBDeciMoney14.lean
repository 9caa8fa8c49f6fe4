/- What the proof needs, part 14 of 18. DeciMoney answers true for every list of numbers and every list of strings; the input reads as it did. -/
import Derived.Lib.Strings
import Derived.Lib.ItoaMem
import Derived.Test.YtkikekiokclmdaaGreatDoorBDeciMoney13
set_option linter.unusedVariables false
set_option linter.unusedSimpArgs false
namespace Go.Proofs.YtkikekiokclmdaaGreatDoor.S
open Go.RowKit Go.Proofs.YtkikekiokclmdaaGreatDoorW.PrintWords Go.Proofs.YtkikekiokclmdaaGreatDoorW.PrintLast Go.Proofs.YtkikekiokclmdaaGreatDoorW.PrintMore
def bs (s : ByteArray) : List UInt8 := s.data.toList
theorem bs_len (s : ByteArray) : (bs s).length = s.size := by unfold bs; rw [Lib.size_eq]
theorem toL (s : ByteArray) : s.toList = bs s := Lib.toList_data s
theorem bs_mk (l : List UInt8) : bs ⟨l.toArray⟩ = l := by unfold bs; simp
theorem bs_inj {s t : ByteArray} (h : bs s = bs t) : s = t := by
  obtain ⟨⟨a⟩⟩ := s
  obtain ⟨⟨b⟩⟩ := t
  unfold bs at h
  simp only at h
  rw [h]
theorem bt_bs (s : ByteArray) (i : Nat) : bt s (i : Int) = (((bs s).getD i 0).toNat : Int) := by
  unfold bt
  rw [Int.toNat_natCast]
  by_cases h : i < s.size
  · rw [dif_pos h]
    show _ = (((s.data.toList).getD i 0).toNat : Int)
    rw [List.getD_eq_getElem?_getD, Lib.data_getElem? s i h]
    rfl
  · rw [dif_neg h, List.getD_eq_getElem?_getD, List.getElem?_eq_none (by rw [bs_len]; omega)]
    rfl
def isD (b : UInt8) : Bool := decide (48 ≤ b.toNat) && decide (b.toNat ≤ 57)
theorem isD_iff {b : UInt8} : isD b = true ↔ 48 ≤ b.toNat ∧ b.toNat ≤ 57 := by
  unfold isD; simp
theorem u8_eq {a b : UInt8} : a = b ↔ a.toNat = b.toNat := UInt8.toNat_inj.symm
def rowL (d : List UInt8) : Bool := d.all isD && !d.isEmpty
def plainL (d : List UInt8) : Bool := rowL d && (d.head? != some 48 || d == [48])
def belowL (s : List UInt8) : Bool := s.head? == some 45
def digL (s : List UInt8) : List UInt8 := if belowL s then s.drop 1 else s
def okL (s : List UInt8) : Bool := plainL (digL s) && s != [45, 48]
def nvN (v : Nat) (d : List UInt8) : Nat := d.foldl (fun v b => 10 * v + (b.toNat - 48)) v
def valL (s : List UInt8) : Int := sgn (belowL s) (nvN 0 (digL s))
def parseL (s : List UInt8) : Int × Int × Int := if okL s = true then outW (valL s) else (0, 0, 30)
theorem digs_isD (b : UInt8) : ([48, 49, 50, 51, 52, 53, 54, 55, 56, 57] : List UInt8).contains b = isD b := by
  rw [Bool.eq_iff_iff, isD_iff, List.contains_iff_mem]
  simp only [List.mem_cons, List.not_mem_nil, or_false, u8_eq]
  simp only [show (48 : UInt8).toNat = 48 from rfl, show (49 : UInt8).toNat = 49 from rfl, show (50 : UInt8).toNat = 50 from rfl, show (51 : UInt8).toNat = 51 from rfl, show (52 : UInt8).toNat = 52 from rfl, show (53 : UInt8).toNat = 53 from rfl, show (54 : UInt8).toNat = 54 from rfl, show (55 : UInt8).toNat = 55 from rfl, show (56 : UInt8).toNat = 56 from rfl, show (57 : UInt8).toNat = 57 from rfl]
  omega
theorem dw_nil {p : UInt8 → Bool} : ∀ {l : List UInt8}, l.dropWhile p = [] ↔ l.all p = true
  | [] => by simp
  | a :: l => by
    rw [List.dropWhile_cons, List.all_cons]
    by_cases h : p a = true
    · rw [if_pos h, dw_nil, h, Bool.true_and]
    · rw [if_neg h]
      simp [h]
theorem dw_all {p : UInt8 → Bool} : ∀ {l : List UInt8}, (l.dropWhile p).all p = true → l.all p = true
  | [] => by simp
  | a :: l => by
    rw [List.dropWhile_cons, List.all_cons]
    by_cases h : p a = true
    · rw [if_pos h, h, Bool.true_and]; exact dw_all
    · rw [if_neg h, List.all_cons]; exact id
theorem trimS_nil (l cs : List UInt8) : Lib.trimS l cs = [] ↔ l.all (cs.contains ·) = true := by
  unfold Lib.trimS Lib.trimLeftS Lib.trimRightS
  rw [dw_nil, List.all_reverse]
  constructor
  · intro h
    have := dw_all h
    rwa [List.all_reverse] at this
  · intro h
    have : l.reverse.dropWhile (cs.contains ·) = [] := dw_nil.2 (by rw [List.all_reverse]; exact h)
    rw [this]; rfl
theorem trim_f (s : ByteArray) (hs : s.size ≤ 9223372036854775807) : ∃ t, strings_Trim.f s ⟨#[48, 49, 50, 51, 52, 53, 54, 55, 56, 57]⟩ = some t ∧ (t.toList = [] ↔ (bs s).all isD = true) := by
  refine ⟨_, if_pos ⟨hs, by decide, by decide⟩, ?_⟩
  rw [toL, bs_mk]
  have e : (fun b => ([48, 49, 50, 51, 52, 53, 54, 55, 56, 57] : List UInt8).contains b) = isD := funext digs_isD
  have := trimS_nil s.data.toList [48, 49, 50, 51, 52, 53, 54, 55, 56, 57]
  rw [e] at this
  exact this
theorem plain_f (s : ByteArray) (hs : s.size ≤ 9223372036854775807) : deci_plain.f s = some (plainL (bs s)) := by
  unfold deci_plain.f
  rw [toL]
  by_cases he : bs s = []
  · rw [if_pos he, he]; rfl
  · rw [if_neg he]
    obtain ⟨t, ht, hd⟩ := trim_f s hs
    refine Option.bind_eq_some_iff.2 ⟨t, ht, ?_⟩
    have hz : 0 < s.size := by rw [← bs_len]; exact List.length_pos_iff.2 he
    have hb := bt_bs s 0
    obtain ⟨x, xs, hx⟩ := List.exists_cons_of_ne_nil he
    rw [hx] at hb ⊢
    change bt s 0 = (x.toNat : Int) at hb
    unfold plainL rowL
    by_cases ha : (bs s).all isD = true
    · rw [if_pos (hd.2 ha), if_pos (by omega), hb]
      rw [hx] at ha
      by_cases h48 : x = 48
      · subst h48
        rw [if_pos (by decide), ha]
        simp
      · rw [if_neg (by intro h; exact h48 (u8_eq.2 (by show x.toNat = 48; omega))), ha]
        simp [h48]
    · rw [if_neg (fun h => ha (hd.1 h))]
      rw [hx] at ha
      rw [Bool.eq_false_iff.2 ha]; rfl
theorem hasPrefix_45 (l : List UInt8) : Lib.hasPrefix l [45] = belowL l := by
  unfold Lib.hasPrefix belowL
  cases l with
  | nil => rfl
  | cons x xs =>
    rw [List.isPrefixOf_cons_cons, List.isPrefixOf_nil_left, Bool.and_true, List.head?_cons, Bool.eq_iff_iff, beq_iff_eq, beq_iff_eq]
    exact ⟨fun h => by rw [h], fun h => (Option.some.inj h).symm⟩
theorem trimPrefix_45 (l : List UInt8) : Lib.trimPrefix l [45] = digL l := by
  unfold Lib.trimPrefix digL
  rw [hasPrefix_45]; rfl
theorem digL_len (l : List UInt8) : (digL l).length ≤ l.length := by
  unfold digL; split <;> simp
theorem signed_f (s : ByteArray) (hs : s.size ≤ 9223372036854775807) : deci_signed.f s = some (⟨(digL (bs s)).toArray⟩, belowL (bs s), okL (bs s)) := by
  unfold deci_signed.f
  refine Option.bind_eq_some_iff.2 ⟨(⟨(digL (bs s)).toArray⟩, belowL (bs s)), ?_, ?_⟩
  · unfold strings_CutPrefix.f
    rw [show (⟨#[45]⟩ : ByteArray).data.toList = [45] from rfl, hasPrefix_45, trimPrefix_45]; rfl
  · refine Option.bind_eq_some_iff.2 ⟨plainL (digL (bs s)), ?_, ?_⟩
    · have := plain_f ⟨(digL (bs s)).toArray⟩ (by have := digL_len (bs s); rw [← bs_len, bs_mk]; rw [bs_len] at this; omega)
      rw [bs_mk] at this
      exact this
    · unfold okL
      rw [toL]
      cases plainL (digL (bs s))
      · rw [if_neg (by decide)]; rfl
      · rw [if_pos rfl]; rfl
theorem nv_mono : ∀ (d : List UInt8) (v : Nat), v ≤ nvN v d
  | [], v => Nat.le_refl _
  | x :: d, v => by
    have := nv_mono d (10 * v + (x.toNat - 48))
    show v ≤ nvN (10 * v + (x.toNat - 48)) d
    omega
theorem sgn_in {b : Bool} {m n : Nat} (h : inR (sgn b n)) (hm : m ≤ n) : inR (sgn b m) := by
  unfold sgn inR at *
  cases b
  · rw [if_neg (by decide)] at *; omega
  · rw [if_pos rfl] at *; omega
theorem pv_eq (b : Bool) : ∀ (d : List UInt8) (v : Nat), d.all isD = true → inR (sgn b v) → pv b (sgn b v) (d.map fun x => (x.toNat : Int)) = outW (sgn b (nvN v d))
  | [], v, _, hv => by
    show (hiW (sgn b v), loW (sgn b v), (0 : Int)) = outW (sgn b v)
    unfold outW; rw [if_pos hv]
  | x :: d, v, hd, hv => by
    rw [List.all_cons, Bool.and_eq_true, isD_iff] at hd
    obtain ⟨⟨h1, h2⟩, hd⟩ := hd
    rw [List.map_cons]
    have hnv : nvN v (x :: d) = nvN (10 * v + (x.toNat - 48)) d := rfl
    have e : 10 * sgn b v + sgn b ((x.toNat : Int) - 48) = sgn b ((10 * v + (x.toNat - 48) : Nat) : Int) := by
      unfold sgn; split <;> omega
    have e10 : 10 * sgn b v = sgn b ((10 * v : Nat) : Int) := by unfold sgn; split <;> omega
    have hm := nv_mono d (10 * v + (x.toNat - 48))
    simp only [pv]
    rw [e, e10, hnv]
    have out : ∀ m : Nat, m ≤ nvN (10 * v + (x.toNat - 48)) d → ¬ inR (sgn b (m : Int)) → ((0 : Int), (0 : Int), (10 : Int)) = outW (sgn b (nvN (10 * v + (x.toNat - 48)) d)) := by
      intro m hm h
      unfold outW
      rw [if_neg (fun h2 => h (sgn_in h2 hm))]
    by_cases c1 : inR (sgn b ((10 * v : Nat) : Int))
    · rw [if_pos c1]
      by_cases c2 : inR (sgn b ((10 * v + (x.toNat - 48) : Nat) : Int))
      · rw [if_pos c2]
        exact pv_eq b d _ hd c2
      · rw [if_neg c2]; exact out _ (by omega) c2
    · rw [if_neg c1]; exact out _ (by omega) c1
theorem okL_dig {s : List UInt8} (h : okL s = true) : (digL s).all isD = true := by
  unfold okL plainL rowL at h
  simp only [Bool.and_eq_true] at h
  exact h.1.1.1
theorem parse_f (s : ByteArray) (hs : s.size ≤ 9223372036854775800) (k : Nat) (hk : 2 * s.size + 10 ≤ k) : zAb.f k s = some (parseL (bs s)) := by
  unfold zAb.f
  refine Option.bind_eq_some_iff.2 ⟨_, signed_f s (by omega), ?_⟩
  unfold parseL
  by_cases ho : okL (bs s) = true
  · rw [if_pos ho, if_pos ho]
    have hl := digL_len (bs s)
    rw [bs_len] at hl
    have hsz : (⟨(digL (bs s)).toArray⟩ : ByteArray).size ≤ 9223372036854775807 := by rw [← bs_len, bs_mk]; omega
    refine Option.bind_eq_some_iff.2 ⟨_, if_pos hsz, ?_⟩
    have eb : bytesOf ⟨(digL (bs s)).toArray⟩ = (digL (bs s)).map fun x => (x.toNat : Int) := by
      unfold bytesOf
      simp
    have hd := okL_dig ho
    rw [eb]
    have hp := parse_loop (belowL (bs s)) ((digL (bs s)).map fun x => (x.toNat : Int)) (by
      intro x hx
      obtain ⟨y, hy, rfl⟩ := List.mem_map.1 hx
      have := isD_iff.1 (List.all_eq_true.1 hd y hy)
      omega) (by rw [List.length_map]; omega) (digL (bs s)).length 0 0 0 k (by rw [List.length_map, Nat.add_zero]) ⟨by decide, by decide, by decide, by decide⟩ (by omega)
    refine Eq.trans hp ?_
    rw [List.drop_zero, show V 0 0 = sgn (belowL (bs s)) ((0 : Nat) : Int) from by unfold V sgn; split <;> rfl, pv_eq _ _ _ hd (by unfold sgn inR; split <;> decide)]
    rfl
  · rw [if_neg ho, if_neg ho]
end Go.Proofs.YtkikekiokclmdaaGreatDoor.S

namespace Go.Proofs.YtkikekiokclmdaaGreatDoor.S
open Go.RowKit Go.Proofs.YtkikekiokclmdaaGreatDoorW.PrintWords Go.Proofs.YtkikekiokclmdaaGreatDoorW.PrintLast Go.Proofs.YtkikekiokclmdaaGreatDoorW.PrintMore
theorem dig_of_head {d : List UInt8} (h : d.head? ≠ some 45) : belowL d = false ∧ digL d = d := by
  have e : belowL d = false := by
    unfold belowL
    exact beq_eq_false_iff_ne.2 h
  exact ⟨e, by unfold digL; rw [e, if_neg (by decide)]⟩
def twoL (r : Nat) : List UInt8 := [UInt8.ofNat (48 + r / 10), UInt8.ofNat (48 + r % 10)]
def moneyL (n : Int) : List UInt8 := (if n < 0 then [45] else []) ++ Lib.decDigits (n.natAbs / 100) ++ [46] ++ twoL (n.natAbs % 100)
theorem two_dec {r : Nat} (h : r < 100) : twoL r = (if r < 10 then 48 :: Lib.decDigits r else Lib.decDigits r) := by
  unfold twoL
  by_cases h10 : r < 10
  · rw [if_pos h10, Lib.decDigits_one h10, show r / 10 = 0 by omega, show r % 10 = r by omega]; rfl
  · rw [if_neg h10, Lib.decDigits_two h10 h]
theorem fmtU {u : Nat} (h : u < 18446744073709551616) : strconv_FormatUint_12.f (u : Int) 10 = some ⟨(Lib.decDigits u).toArray⟩ := by
  unfold strconv_FormatUint_12.f
  rw [if_pos ⟨rfl, by omega, by omega⟩, Int.toNat_natCast]
theorem bs_app (s t : ByteArray) : bs (s ++ t) = bs s ++ bs t := by
  unfold bs
  rw [ByteArray.data_append, Array.toList_append]
theorem dec_short {u : Nat} (h : u < 18446744073709551616) : (Lib.decDigits u).length ≤ 20 := by
  rcases Nat.eq_zero_or_pos u with hz | hz
  · rw [hz, Lib.decDigits_one (by decide)]; decide
  · rw [← rdig_dec _ hz]
    unfold toB
    rw [List.length_map, List.length_reverse]
    exact rdig_len 20 _ (by omega)
theorem money_f (n : Int) (h0 : -9223372036854775808 ≤ n) (h1 : n ≤ 9223372036854775807) (k : Nat) (hk : 1 ≤ k) : deci_Money.f k n = some ⟨(moneyL n).toArray⟩ := by
  obtain ⟨k, rfl⟩ : ∃ x, k = x + 1 := ⟨k - 1, by omega⟩
  have key : ∀ sg : ByteArray, sg.size ≤ 1 → deci_Money.j0 (k + 1) sg (n.natAbs : Int) = some (sg ++ ⟨(Lib.decDigits (n.natAbs / 100) ++ [46] ++ twoL (n.natAbs % 100)).toArray⟩) := by
    intro sg hsg
    simp only [deci_Money.j0]
    have em : ((n.natAbs : Int)).tmod 100 = ((n.natAbs % 100 : Nat) : Int) := rfl
    have ed : IntKind.u64.wrap (((n.natAbs : Int)).tdiv 100) = ((n.natAbs / 100 : Nat) : Int) := by
      rw [show ((n.natAbs : Int)).tdiv 100 = ((n.natAbs / 100 : Nat) : Int) from rfl, wrap_u64]; omega
    rw [em, ed]
    refine Option.bind_eq_some_iff.2 ⟨_, fmtU (by omega), ?_⟩
    have l1 := dec_short (u := n.natAbs % 100) (by omega)
    have l2 := dec_short (u := n.natAbs / 100) (by omega)
    have z1 : (⟨(Lib.decDigits (n.natAbs % 100)).toArray⟩ : ByteArray).size = (Lib.decDigits (n.natAbs % 100)).length := by rw [← bs_len, bs_mk]
    have z2 : (⟨(Lib.decDigits (n.natAbs / 100)).toArray⟩ : ByteArray).size = (Lib.decDigits (n.natAbs / 100)).length := by rw [← bs_len, bs_mk]
    have z3 : (⟨#[46]⟩ : ByteArray).size = 1 := rfl
    have z4 : (⟨#[48]⟩ : ByteArray).size = 1 := rfl
    have et := two_dec (r := n.natAbs % 100) (by omega)
    have ln : (Lib.decDigits (n.natAbs % 100)).length = if n.natAbs % 100 < 10 then 1 else 2 := by
      by_cases h10 : n.natAbs % 100 < 10
      · rw [if_pos h10, Lib.decDigits_one h10]; rfl
      · rw [if_neg h10, Lib.decDigits_two h10 (by omega)]; rfl
    by_cases h10 : n.natAbs % 100 < 10
    · rw [if_pos h10] at et ln
      rw [if_pos (by omega), if_pos (by omega)]
      refine Option.bind_eq_some_iff.2 ⟨_, fmtU (by omega), ?_⟩
      rw [if_pos (by omega), if_pos (by rw [ByteArray.size_append]; omega), if_pos (by simp only [ByteArray.size_append]; omega)]
      congr 1
      apply bs_inj
      simp only [bs_app, bs_mk, et]
      simp [bs]
    · rw [if_neg h10] at et ln
      rw [if_neg (by omega)]
      refine Option.bind_eq_some_iff.2 ⟨_, fmtU (by omega), ?_⟩
      rw [if_pos (by omega), if_pos (by rw [ByteArray.size_append]; omega), if_pos (by simp only [ByteArray.size_append]; omega)]
      congr 1
      apply bs_inj
      simp only [bs_app, bs_mk, et]
      simp [bs]
  unfold deci_Money.f
  have fin : ∀ sg : ByteArray, bs sg = (if n < 0 then [45] else []) → sg ++ ⟨(Lib.decDigits (n.natAbs / 100) ++ [46] ++ twoL (n.natAbs % 100)).toArray⟩ = (⟨(moneyL n).toArray⟩ : ByteArray) := by
    intro sg hs
    apply bs_inj
    simp only [bs_app, bs_mk, hs, moneyL, List.append_assoc]
  by_cases hn : n < 0
  · rw [if_pos hn, show IntKind.u64.wrap (-(IntKind.u64.wrap n)) = (n.natAbs : Int) from by rw [wrap_u64, wrap_u64]; omega, key _ (by decide), fin _ (by rw [if_pos hn]; rfl)]
  · rw [if_neg hn, show IntKind.u64.wrap n = (n.natAbs : Int) from by rw [wrap_u64]; omega, key _ (by decide), fin _ (by rw [if_neg hn]; rfl)]
theorem coins_awake : deci_Coins.f ⟨#[49, 50, 46, 51, 48]⟩ = some (1230, 0) := by decide +kernel
theorem awake_f (k : Nat) (hk : 200 ≤ k) : zAY.f k = some true := by
  unfold zAY.f
  refine Option.bind_eq_some_iff.2 ⟨(hiW (-15), loW (-15), 0), ?_, ?_⟩
  · rw [parse_f _ (by decide) k (by have : (⟨#[45, 49, 53]⟩ : ByteArray).size = 3 := rfl; omega)]
    decide +kernel
  · refine Option.bind_eq_some_iff.2 ⟨_, coins_awake, ?_⟩
    rw [if_pos rfl, if_pos rfl]
    refine Option.bind_eq_some_iff.2 ⟨_, of_f (-15) (by decide) (by decide), ?_⟩
    rw [if_pos (by decide), if_pos rfl]
    refine Option.bind_eq_some_iff.2 ⟨_, of_f (-15) (by decide) (by decide), ?_⟩
    refine Option.bind_eq_some_iff.2 ⟨_, text_f (Wd.to (by decide)) k (by omega), ?_⟩
    rw [V_to]
    have et : (txt (-15)).toList = [45, 49, 53] := by
      rw [toL]; unfold txt; rw [bs_mk]; unfold Lib.itoa
      rw [if_pos (by decide), show (-15 : Int).natAbs = 15 from rfl, Lib.decDigits_two (by decide) (by decide)]; rfl
    rw [if_pos et]
    refine Option.bind_eq_some_iff.2 ⟨_, money_f (-5) (by decide) (by decide) k (by omega), ?_⟩
    have em : moneyL (-5) = [45, 48, 46, 48, 53] := by
      unfold moneyL
      rw [show (-5 : Int).natAbs / 100 = 0 from rfl, Lib.decDigits_one (by decide)]; rfl
    rw [toL, bs_mk, em]; rfl
end Go.Proofs.YtkikekiokclmdaaGreatDoor.S
