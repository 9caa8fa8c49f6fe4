/- What the proof needs, part 12 of 18. DeciMoney answers true for every list of numbers and every list of strings; the input reads as it did. -/
import Derived.Lib.IndexLaws
import Derived.Lib.IndexBytes
import Derived.Lib.ConvBytes
import Derived.Test.YtkikekiokclmdaaGreatDoorBDeciMoney8
import Derived.Test.YtkikekiokclmdaaGreatDoorBDeciMoney5
set_option linter.unusedVariables false
set_option linter.unusedSimpArgs false
namespace Go.Proofs.YtkikekiokclmdaaGreatDoor.S
open Go.RowKit Go.Proofs.YtkikekiokclmdaaGreatDoorW.PrintWords Go.Proofs.YtkikekiokclmdaaGreatDoorW.PrintLast Go.Proofs.YtkikekiokclmdaaGreatDoorW.PrintMore
def cutC (s : ByteArray) (c : UInt8) : Bool := decide (0 ≤ Lib.indexByte s.data.toList c)
def cutA (s : ByteArray) (c : UInt8) : ByteArray := if 0 ≤ Lib.indexByte s.data.toList c then s.extract 0 (Lib.indexByte s.data.toList c).toNat else s
def cutB (s : ByteArray) (c : UInt8) : ByteArray := if 0 ≤ Lib.indexByte s.data.toList c then s.extract ((Lib.indexByte s.data.toList c).toNat + 1) s.size else ⟨#[]⟩
set_option maxHeartbeats 4000000 in
set_option maxRecDepth 100000 in
theorem cut_in (s : ByteArray) (c : UInt8) (hs : s.size ≤ 9223372036854775806) (w : World) :
    Calls Tryz.prog 32 #[.string s, .string ⟨#[c]⟩] w fun e w' => e = .returned (.tuple #[.string (cutA s c), .string (cutB s c), .bool (cutC s c)]) ∧ zAe w w' := by
  have hix := fun W => Tryz.stringslite_Index_one s c W
  have hone : (⟨#[c]⟩ : ByteArray).size = 1 := rfl
  unfold cutA cutB cutC
  by_cases h0 : 0 ≤ Lib.indexByte s.data.toList c
  · obtain ⟨j, hj⟩ := Int.eq_ofNat_of_zero_le h0
    have hlt : j < s.size := by
      have := (List.getElem?_eq_some_iff.1 (Lib.indexByte_some hj).1).1
      simpa using this
    rw [hj] at hix ⊢
    rw [if_pos (Int.natCast_nonneg j), if_pos (Int.natCast_nonneg j), show decide (0 ≤ (j : Int)) = true from decide_eq_true (Int.natCast_nonneg j), Int.toNat_natCast]
    clear h0 hj
    have hw : IntKind.i64.wrap ((j : Int) + 1) = ((j + 1 : Nat) : Int) := by rw [IntKind.wrap_i64]; omega
    have hl1 : (j : Int) ≤ (s.size : Int) := by omega
    have hl2 : ((j : Int) + 1) ≤ (s.size : Int) := by omega
    go_enter Tryz.func32, Tryz.ntmps32
    go_wp2_with (go_at_call 62; fail)
    refine (hix _).mono ?_
    rintro e w1 ⟨rfl, rfl⟩
    clear hix
    go_wp2
    repeat (go_quiet (fail); try go_wp2)
    refine bodyPost_ret (results_list (rs := [.tmp 4, .tmp 5, .tmp 6]) rfl (by simp) (.tmp (.tmp (.tmp .nil)))) rfl ?_
    exact ⟨rfl, by repeat (first | exact zAe.refl _ | apply zAe.step)⟩
  · rw [if_neg h0, if_neg h0, show decide (0 ≤ Lib.indexByte s.data.toList c) = false from decide_eq_false h0]
    obtain ⟨i, hi⟩ : ∃ i, i = Lib.indexByte s.data.toList c := ⟨_, rfl⟩
    rw [← hi] at hix h0
    have hd : decide (0 ≤ i) = false := decide_eq_false h0
    clear h0 hi
    go_enter Tryz.func32, Tryz.ntmps32
    go_wp2_with (go_at_call 62; fail)
    refine (hix _).mono ?_
    rintro e w1 ⟨rfl, rfl⟩
    clear hix
    go_wp2
    repeat (go_quiet (fail); try go_wp2)
    refine bodyPost_ret (results_list (rs := [.tmp 4, .tmp 5, .tmp 6]) rfl (by simp) (.tmp (.tmp (.tmp .nil)))) rfl ?_
    exact ⟨rfl, by repeat (first | exact zAe.refl _ | apply zAe.step)⟩
set_option maxHeartbeats 4000000 in
theorem cut_c (s : ByteArray) (c : UInt8) (hs : s.size ≤ 9223372036854775806) (w : World) :
    Calls Tryz.prog 14 #[.string s, .string ⟨#[c]⟩] w fun e w' => e = .returned (.tuple #[.string (cutA s c), .string (cutB s c), .bool (cutC s c)]) ∧ zAe w w' := by
  have hc := fun W => cut_in s c hs W
  clear hs
  go_enter Tryz.func14, Tryz.ntmps14
  go_wp2_with (go_at_call 32; fail)
  refine (hc _).mono ?_
  rintro e w1 ⟨rfl, hd⟩
  obtain ⟨m, rfl⟩ := hd
  clear hc
  go_wp2
  repeat (go_quiet (fail); try go_wp2)
  refine bodyPost_ret (results_list (rs := [.tmp 4, .tmp 5, .tmp 6]) rfl (by simp) (.tmp (.tmp (.tmp .nil)))) rfl ?_
  exact ⟨rfl, by repeat (first | exact zAe.refl _ | apply zAe.step)⟩
end Go.Proofs.YtkikekiokclmdaaGreatDoor.S

namespace Go.Proofs.YtkikekiokclmdaaGreatDoor.S
open Go.RowKit Go.Proofs.YtkikekiokclmdaaGreatDoorW.PrintWords Go.Proofs.YtkikekiokclmdaaGreatDoorW.PrintLast Go.Proofs.YtkikekiokclmdaaGreatDoorW.PrintMore
abbrev digs : ByteArray := ⟨#[48, 49, 50, 51, 52, 53, 54, 55, 56, 57]⟩
def coinsT (bl : Bool) (d r : ByteArray) : ByteArray := (if bl = true then (⟨#[45]⟩ : ByteArray) else ⟨#[]⟩) ++ d ++ r
set_option maxHeartbeats 4000000 in
set_option maxRecDepth 100000 in
theorem coins1 (s A B d : ByteArray) (o3 : Bool) (hcut : ∀ W, Calls Tryz.prog 14 #[.string s, .string ⟨#[46]⟩] W fun e w' => e = .returned (.tuple #[.string A, .string B, .bool false]) ∧ zAe W w') (bl : Bool) (hsg : deci_signed.f A = some (d, bl, o3)) (w : World) (hG : GW w) :
    Calls Tryz.prog 7 #[.string s] w fun e w' => e = .returned (.tuple #[.int .i64 0, .int .i64 30]) ∧ Below w.heap.size w w' := by
  have hsg_ := fun W => deci_signed.calls A d bl o3 W hsg
  clear hsg
  have HG := aK_ hG
  clear hG
  go_enter Tryz.func7, Tryz.ntmps7
  go_wp2_with (go_at_call 14; fail)
  refine (hcut _).mono ?_
  rintro e w1 ⟨rfl, hd⟩
  obtain ⟨m, rfl⟩ := hd
  have HB := aK_ (zAU (Below.refl w.heap.size w) m)
  clear hcut
  go_wp2_with (go_at_call 15; fail)
  refine (hsg_ _).mono ?_
  rintro e w2 ⟨rfl, hb⟩
  have HB := aK_ (zAE HB.out hb)
  clear hb hsg_
  go_wp2
  repeat (go_quiet (fail); try go_wp2)
  refine bodyPost_ret (results_list (rs := [.tmp 2, .tmp 3]) rfl (by simp) (.tmp (.tmp .nil))) rfl ?_
  exact ⟨rfl, by first | exact HB.out | exact zAU HB.out _⟩
set_option maxHeartbeats 4000000 in
set_option maxRecDepth 100000 in
theorem coins2 (s A B d : ByteArray) (o3 : Bool) (hcut : ∀ W, Calls Tryz.prog 14 #[.string s, .string ⟨#[46]⟩] W fun e w' => e = .returned (.tuple #[.string A, .string B, .bool true]) ∧ zAe W w') (bl : Bool) (hsg : deci_signed.f A = some (d, bl, o3)) (hpl : deci_plain.f d = some false) (w : World) (hG : GW w) :
    Calls Tryz.prog 7 #[.string s] w fun e w' => e = .returned (.tuple #[.int .i64 0, .int .i64 30]) ∧ Below w.heap.size w w' := by
  have hsg_ := fun W => deci_signed.calls A d bl o3 W hsg
  have hpl_ := fun W => deci_plain.calls d false W hpl
  clear hsg hpl
  have HG := aK_ hG
  clear hG
  go_enter Tryz.func7, Tryz.ntmps7
  go_wp2_with (go_at_call 14; fail)
  refine (hcut _).mono ?_
  rintro e w1 ⟨rfl, hd⟩
  obtain ⟨m, rfl⟩ := hd
  have HB := aK_ (zAU (Below.refl w.heap.size w) m)
  clear hcut
  go_wp2_with (go_at_call 15; fail)
  refine (hsg_ _).mono ?_
  rintro e w2 ⟨rfl, hb⟩
  have HB := aK_ (zAE HB.out hb)
  clear hb hsg_
  go_wp2_with (go_at_call 16; fail)
  refine (hpl_ _).mono ?_
  rintro e w3 ⟨rfl, hb⟩
  have HB := aK_ (zAE HB.out hb)
  clear hb hpl_
  go_wp2
  repeat (go_quiet (fail); try go_wp2)
  refine bodyPost_ret (results_list (rs := [.tmp 2, .tmp 3]) rfl (by simp) (.tmp (.tmp .nil))) rfl ?_
  exact ⟨rfl, by first | exact HB.out | exact zAU HB.out _⟩
set_option maxHeartbeats 4000000 in
set_option maxRecDepth 100000 in
theorem coins3 (s A B d : ByteArray) (o3 : Bool) (hcut : ∀ W, Calls Tryz.prog 14 #[.string s, .string ⟨#[46]⟩] W fun e w' => e = .returned (.tuple #[.string A, .string B, .bool true]) ∧ zAe W w') (bl : Bool) (hsg : deci_signed.f A = some (d, bl, o3)) (hpl : deci_plain.f d = some true) (h2 : B.size ≠ 2) (w : World) (hG : GW w) :
    Calls Tryz.prog 7 #[.string s] w fun e w' => e = .returned (.tuple #[.int .i64 0, .int .i64 30]) ∧ Below w.heap.size w w' := by
  have f2 : ((B.size : Int) != 2) = true := bne_iff_ne.mpr (by omega)
  clear h2
  have hsg_ := fun W => deci_signed.calls A d bl o3 W hsg
  have hpl_ := fun W => deci_plain.calls d true W hpl
  clear hsg hpl
  have HG := aK_ hG
  clear hG
  go_enter Tryz.func7, Tryz.ntmps7
  go_wp2_with (go_at_call 14; fail)
  refine (hcut _).mono ?_
  rintro e w1 ⟨rfl, hd⟩
  obtain ⟨m, rfl⟩ := hd
  have HB := aK_ (zAU (Below.refl w.heap.size w) m)
  clear hcut
  go_wp2_with (go_at_call 15; fail)
  refine (hsg_ _).mono ?_
  rintro e w2 ⟨rfl, hb⟩
  have HB := aK_ (zAE HB.out hb)
  clear hb hsg_
  go_wp2_with (go_at_call 16; fail)
  refine (hpl_ _).mono ?_
  rintro e w3 ⟨rfl, hb⟩
  have HB := aK_ (zAE HB.out hb)
  clear hb hpl_
  go_wp2
  repeat (go_quiet (fail); try go_wp2)
  refine bodyPost_ret (results_list (rs := [.tmp 2, .tmp 3]) rfl (by simp) (.tmp (.tmp .nil))) rfl ?_
  exact ⟨rfl, by first | exact HB.out | exact zAU HB.out _⟩
set_option maxHeartbeats 4000000 in
set_option maxRecDepth 100000 in
theorem coins4 (s A B d : ByteArray) (o3 : Bool) (hcut : ∀ W, Calls Tryz.prog 14 #[.string s, .string ⟨#[46]⟩] W fun e w' => e = .returned (.tuple #[.string A, .string B, .bool true]) ∧ zAe W w') (bl : Bool) (hsg : deci_signed.f A = some (d, bl, o3)) (hpl : deci_plain.f d = some true) (h2 : B.size = 2) (t : ByteArray) (htr : strings_Trim.f B digs = some t) (ht : t.toList ≠ []) (w : World) (hG : GW w) :
    Calls Tryz.prog 7 #[.string s] w fun e w' => e = .returned (.tuple #[.int .i64 0, .int .i64 30]) ∧ Below w.heap.size w w' := by
  have f2 : ((B.size : Int) != 2) = false := bne_eq_false_iff_eq.mpr (by omega)
  have f3 : (t.toList != ([] : List UInt8)) = true := bne_iff_ne.mpr ht
  have f3e : t.toList.isEmpty = false := by cases h_ : t.toList with | nil => exact absurd h_ ht | cons => rfl
  clear h2
  clear ht
  have hsg_ := fun W => deci_signed.calls A d bl o3 W hsg
  have hpl_ := fun W => deci_plain.calls d true W hpl
  have htr_ := fun W => strings_Trim.calls B digs t W htr
  clear hsg hpl htr
  have HG := aK_ hG
  clear hG
  go_enter Tryz.func7, Tryz.ntmps7
  go_wp2_with (go_at_call 14; fail)
  refine (hcut _).mono ?_
  rintro e w1 ⟨rfl, hd⟩
  obtain ⟨m, rfl⟩ := hd
  have HB := aK_ (zAU (Below.refl w.heap.size w) m)
  clear hcut
  go_wp2_with (go_at_call 15; fail)
  refine (hsg_ _).mono ?_
  rintro e w2 ⟨rfl, hb⟩
  have HB := aK_ (zAE HB.out hb)
  clear hb hsg_
  go_wp2_with (go_at_call 16; fail)
  refine (hpl_ _).mono ?_
  rintro e w3 ⟨rfl, hb⟩
  have HB := aK_ (zAE HB.out hb)
  clear hb hpl_
  go_wp2_with (go_at_call 17; fail)
  refine (htr_ _).mono ?_
  rintro e w4 ⟨rfl, hb⟩
  have HB := aK_ (zAE HB.out hb)
  clear hb htr_
  go_wp2
  repeat (go_quiet (fail); try go_wp2)
  refine bodyPost_ret (results_list (rs := [.tmp 2, .tmp 3]) rfl (by simp) (.tmp (.tmp .nil))) rfl ?_
  exact ⟨rfl, by first | exact HB.out | exact zAU HB.out _⟩
set_option maxHeartbeats 4000000 in
set_option maxRecDepth 100000 in
theorem coins5 (s A B d : ByteArray) (o3 : Bool) (hcut : ∀ W, Calls Tryz.prog 14 #[.string s, .string ⟨#[46]⟩] W fun e w' => e = .returned (.tuple #[.string A, .string B, .bool true]) ∧ zAe W w') (hsg : deci_signed.f A = some (d, true, o3)) (hpl : deci_plain.f d = some true) (h2 : B.size = 2) (t : ByteArray) (htr : strings_Trim.f B digs = some t) (ht : t.toList = []) (hd : d.toList = [48]) (hr : B.toList = [48, 48]) (w : World) (hG : GW w) :
    Calls Tryz.prog 7 #[.string s] w fun e w' => e = .returned (.tuple #[.int .i64 0, .int .i64 30]) ∧ Below w.heap.size w w' := by
  have f2 : ((B.size : Int) != 2) = false := bne_eq_false_iff_eq.mpr (by omega)
  have f3 : (t.toList != ([] : List UInt8)) = false := bne_eq_false_iff_eq.mpr ht
  have f3e : t.toList.isEmpty = true := by rw [ht]; rfl
  have f4 : (d.toList == ([48] : List UInt8)) = true := beq_iff_eq.mpr hd
  have f5 : (B.toList == ([48, 48] : List UInt8)) = true := beq_iff_eq.mpr hr
  clear h2
  clear ht
  clear hd
  clear hr
  have hsg_ := fun W => deci_signed.calls A d true o3 W hsg
  have hpl_ := fun W => deci_plain.calls d true W hpl
  have htr_ := fun W => strings_Trim.calls B digs t W htr
  clear hsg hpl htr
  have HG := aK_ hG
  clear hG
  go_enter Tryz.func7, Tryz.ntmps7
  go_wp2_with (go_at_call 14; fail)
  refine (hcut _).mono ?_
  rintro e w1 ⟨rfl, hd⟩
  obtain ⟨m, rfl⟩ := hd
  have HB := aK_ (zAU (Below.refl w.heap.size w) m)
  clear hcut
  go_wp2_with (go_at_call 15; fail)
  refine (hsg_ _).mono ?_
  rintro e w2 ⟨rfl, hb⟩
  have HB := aK_ (zAE HB.out hb)
  clear hb hsg_
  go_wp2_with (go_at_call 16; fail)
  refine (hpl_ _).mono ?_
  rintro e w3 ⟨rfl, hb⟩
  have HB := aK_ (zAE HB.out hb)
  clear hb hpl_
  go_wp2_with (go_at_call 17; fail)
  refine (htr_ _).mono ?_
  rintro e w4 ⟨rfl, hb⟩
  have HB := aK_ (zAE HB.out hb)
  clear hb htr_
  go_wp2
  repeat (go_quiet (fail); try go_wp2)
  refine bodyPost_ret (results_list (rs := [.tmp 2, .tmp 3]) rfl (by simp) (.tmp (.tmp .nil))) rfl ?_
  exact ⟨rfl, by first | exact HB.out | exact zAU HB.out _⟩
set_option maxHeartbeats 4000000 in
set_option maxRecDepth 100000 in
theorem coins6ok (s A B d : ByteArray) (o3 : Bool) (hcut : ∀ W, Calls Tryz.prog 14 #[.string s, .string ⟨#[46]⟩] W fun e w' => e = .returned (.tuple #[.string A, .string B, .bool true]) ∧ zAe W w') (hsg : deci_signed.f A = some (d, false, o3)) (hpl : deci_plain.f d = some true) (h2 : B.size = 2) (t : ByteArray) (htr : strings_Trim.f B digs = some t) (ht : t.toList = []) (hsz : A.size + B.size ≤ 281474976710000) (hdl : d.size ≤ A.size) (v : Int) (hv : Lib.parseIntB 64 (coinsT false d B).data.toList = .ok v) (w : World) (hG : GW w) :
    Calls Tryz.prog 7 #[.string s] w fun e w' => e = .returned (.tuple #[.int .i64 v, .int .i64 0]) ∧ Below w.heap.size w w' := by
  have f2 : ((B.size : Int) != 2) = false := bne_eq_false_iff_eq.mpr (by omega)
  have f3 : (t.toList != ([] : List UInt8)) = false := bne_eq_false_iff_eq.mpr ht
  have f3e : t.toList.isEmpty = true := by rw [ht]; rfl
  clear h2
  clear ht
  have hsg_ := fun W => deci_signed.calls A d false o3 W hsg
  have hpl_ := fun W => deci_plain.calls d true W hpl
  have htr_ := fun W => strings_Trim.calls B digs t W htr
  clear hsg hpl htr
  have HV := aK_ hv
  have HSZ := aK_ (And.intro hsz hdl)
  clear hv hsz hdl
  have HG := aK_ hG
  clear hG
  go_enter Tryz.func7, Tryz.ntmps7
  go_wp2_with (go_at_call 14; fail)
  refine (hcut _).mono ?_
  rintro e w1 ⟨rfl, hd⟩
  obtain ⟨m, rfl⟩ := hd
  have HB := aK_ (zAU (Below.refl w.heap.size w) m)
  clear hcut
  go_wp2_with (go_at_call 15; fail)
  refine (hsg_ _).mono ?_
  rintro e w2 ⟨rfl, hb⟩
  have HB := aK_ (zAE HB.out hb)
  clear hb hsg_
  go_wp2_with (go_at_call 16; fail)
  refine (hpl_ _).mono ?_
  rintro e w3 ⟨rfl, hb⟩
  have HB := aK_ (zAE HB.out hb)
  clear hb hpl_
  go_wp2_with (go_at_call 17; fail)
  refine (htr_ _).mono ?_
  rintro e w4 ⟨rfl, hb⟩
  have HB := aK_ (zAE HB.out hb)
  clear hb htr_
  have g1 : ¬ (9223372036854775807 < d.size) := by have := HSZ.out; omega
  have g2 : ¬ (9223372036854775807 < d.size + B.size) := by have := HSZ.out; omega
  have g3 : ¬ (9223372036854775807 < 1 + d.size) := by have := HSZ.out; omega
  have g4 : ¬ (9223372036854775807 < 1 + d.size + B.size) := by have := HSZ.out; omega
  have hz : ((⟨#[]⟩ : ByteArray) ++ d ++ B).size ≤ 281474976710656 := by rw [ByteArray.size_append, ByteArray.size_append]; have h1 : (⟨#[]⟩ : ByteArray).size ≤ 1 := (by decide); have := HSZ.out; omega
  have hpi := fun W => Tryz.strconv_ParseInt_10_at64_ok ((⟨#[]⟩ : ByteArray) ++ d ++ B) (by omega) v HV.out W
  go_wp2_with (go_at_call 18; fail)
  refine (hpi _).mono ?_
  rintro e w5 ⟨rfl, hw5⟩
  have hb5 : Below w4.heap.size w4 w5 := by rcases hw5 with rfl | ⟨t_, rfl⟩; exact Below.refl _ _; exact ⟨rfl, rfl, rfl, by rw [Lib.bytesWorld_size]; omega, fun k hk => Lib.bytesWorld_at_old w4 _ t_ k hk⟩
  have HB := aK_ (zAE HB.out hb5)
  clear hb5 hpi
  go_wp2
  repeat (go_quiet (fail); try go_wp2)
  refine bodyPost_ret (results_list (rs := [.tmp 2, .tmp 3]) rfl (by simp) (.tmp (.tmp .nil))) rfl ?_
  exact ⟨rfl, by first | exact HB.out | exact zAU HB.out _⟩
set_option maxHeartbeats 4000000 in
set_option maxRecDepth 100000 in
theorem coins7ok (s A B d : ByteArray) (o3 : Bool) (hcut : ∀ W, Calls Tryz.prog 14 #[.string s, .string ⟨#[46]⟩] W fun e w' => e = .returned (.tuple #[.string A, .string B, .bool true]) ∧ zAe W w') (hsg : deci_signed.f A = some (d, true, o3)) (hpl : deci_plain.f d = some true) (h2 : B.size = 2) (t : ByteArray) (htr : strings_Trim.f B digs = some t) (ht : t.toList = []) (hd : d.toList ≠ [48]) (hsz : A.size + B.size ≤ 281474976710000) (hdl : d.size ≤ A.size) (v : Int) (hv : Lib.parseIntB 64 (coinsT true d B).data.toList = .ok v) (w : World) (hG : GW w) :
    Calls Tryz.prog 7 #[.string s] w fun e w' => e = .returned (.tuple #[.int .i64 v, .int .i64 0]) ∧ Below w.heap.size w w' := by
  have f2 : ((B.size : Int) != 2) = false := bne_eq_false_iff_eq.mpr (by omega)
  have f3 : (t.toList != ([] : List UInt8)) = false := bne_eq_false_iff_eq.mpr ht
  have f3e : t.toList.isEmpty = true := by rw [ht]; rfl
  have f4 : (d.toList == ([48] : List UInt8)) = false := beq_eq_false_iff_ne.mpr hd
  clear h2
  clear ht
  clear hd
  have hsg_ := fun W => deci_signed.calls A d true o3 W hsg
  have hpl_ := fun W => deci_plain.calls d true W hpl
  have htr_ := fun W => strings_Trim.calls B digs t W htr
  clear hsg hpl htr
  have HV := aK_ hv
  have HSZ := aK_ (And.intro hsz hdl)
  clear hv hsz hdl
  have HG := aK_ hG
  clear hG
  go_enter Tryz.func7, Tryz.ntmps7
  go_wp2_with (go_at_call 14; fail)
  refine (hcut _).mono ?_
  rintro e w1 ⟨rfl, hd⟩
  obtain ⟨m, rfl⟩ := hd
  have HB := aK_ (zAU (Below.refl w.heap.size w) m)
  clear hcut
  go_wp2_with (go_at_call 15; fail)
  refine (hsg_ _).mono ?_
  rintro e w2 ⟨rfl, hb⟩
  have HB := aK_ (zAE HB.out hb)
  clear hb hsg_
  go_wp2_with (go_at_call 16; fail)
  refine (hpl_ _).mono ?_
  rintro e w3 ⟨rfl, hb⟩
  have HB := aK_ (zAE HB.out hb)
  clear hb hpl_
  go_wp2_with (go_at_call 17; fail)
  refine (htr_ _).mono ?_
  rintro e w4 ⟨rfl, hb⟩
  have HB := aK_ (zAE HB.out hb)
  clear hb htr_
  have g1 : ¬ (9223372036854775807 < d.size) := by have := HSZ.out; omega
  have g2 : ¬ (9223372036854775807 < d.size + B.size) := by have := HSZ.out; omega
  have g3 : ¬ (9223372036854775807 < 1 + d.size) := by have := HSZ.out; omega
  have g4 : ¬ (9223372036854775807 < 1 + d.size + B.size) := by have := HSZ.out; omega
  have hz : ((⟨#[45]⟩ : ByteArray) ++ d ++ B).size ≤ 281474976710656 := by rw [ByteArray.size_append, ByteArray.size_append]; have h1 : (⟨#[45]⟩ : ByteArray).size ≤ 1 := (by decide); have := HSZ.out; omega
  have hpi := fun W => Tryz.strconv_ParseInt_10_at64_ok ((⟨#[45]⟩ : ByteArray) ++ d ++ B) (by omega) v HV.out W
  go_wp2_with (go_at_call 18; fail)
  refine (hpi _).mono ?_
  rintro e w5 ⟨rfl, hw5⟩
  have hb5 : Below w4.heap.size w4 w5 := by rcases hw5 with rfl | ⟨t_, rfl⟩; exact Below.refl _ _; exact ⟨rfl, rfl, rfl, by rw [Lib.bytesWorld_size]; omega, fun k hk => Lib.bytesWorld_at_old w4 _ t_ k hk⟩
  have HB := aK_ (zAE HB.out hb5)
  clear hb5 hpi
  go_wp2
  repeat (go_quiet (fail); try go_wp2)
  refine bodyPost_ret (results_list (rs := [.tmp 2, .tmp 3]) rfl (by simp) (.tmp (.tmp .nil))) rfl ?_
  exact ⟨rfl, by first | exact HB.out | exact zAU HB.out _⟩
set_option maxHeartbeats 4000000 in
set_option maxRecDepth 100000 in
theorem coins8ok (s A B d : ByteArray) (o3 : Bool) (hcut : ∀ W, Calls Tryz.prog 14 #[.string s, .string ⟨#[46]⟩] W fun e w' => e = .returned (.tuple #[.string A, .string B, .bool true]) ∧ zAe W w') (hsg : deci_signed.f A = some (d, true, o3)) (hpl : deci_plain.f d = some true) (h2 : B.size = 2) (t : ByteArray) (htr : strings_Trim.f B digs = some t) (ht : t.toList = []) (hd : d.toList = [48]) (hr : B.toList ≠ [48, 48]) (hsz : A.size + B.size ≤ 281474976710000) (hdl : d.size ≤ A.size) (v : Int) (hv : Lib.parseIntB 64 (coinsT true d B).data.toList = .ok v) (w : World) (hG : GW w) :
    Calls Tryz.prog 7 #[.string s] w fun e w' => e = .returned (.tuple #[.int .i64 v, .int .i64 0]) ∧ Below w.heap.size w w' := by
  have f2 : ((B.size : Int) != 2) = false := bne_eq_false_iff_eq.mpr (by omega)
  have f3 : (t.toList != ([] : List UInt8)) = false := bne_eq_false_iff_eq.mpr ht
  have f3e : t.toList.isEmpty = true := by rw [ht]; rfl
  have f4 : (d.toList == ([48] : List UInt8)) = true := beq_iff_eq.mpr hd
  have f5 : (B.toList == ([48, 48] : List UInt8)) = false := beq_eq_false_iff_ne.mpr hr
  clear h2
  clear ht
  clear hd
  clear hr
  have hsg_ := fun W => deci_signed.calls A d true o3 W hsg
  have hpl_ := fun W => deci_plain.calls d true W hpl
  have htr_ := fun W => strings_Trim.calls B digs t W htr
  clear hsg hpl htr
  have HV := aK_ hv
  have HSZ := aK_ (And.intro hsz hdl)
  clear hv hsz hdl
  have HG := aK_ hG
  clear hG
  go_enter Tryz.func7, Tryz.ntmps7
  go_wp2_with (go_at_call 14; fail)
  refine (hcut _).mono ?_
  rintro e w1 ⟨rfl, hd⟩
  obtain ⟨m, rfl⟩ := hd
  have HB := aK_ (zAU (Below.refl w.heap.size w) m)
  clear hcut
  go_wp2_with (go_at_call 15; fail)
  refine (hsg_ _).mono ?_
  rintro e w2 ⟨rfl, hb⟩
  have HB := aK_ (zAE HB.out hb)
  clear hb hsg_
  go_wp2_with (go_at_call 16; fail)
  refine (hpl_ _).mono ?_
  rintro e w3 ⟨rfl, hb⟩
  have HB := aK_ (zAE HB.out hb)
  clear hb hpl_
  go_wp2_with (go_at_call 17; fail)
  refine (htr_ _).mono ?_
  rintro e w4 ⟨rfl, hb⟩
  have HB := aK_ (zAE HB.out hb)
  clear hb htr_
  have g1 : ¬ (9223372036854775807 < d.size) := by have := HSZ.out; omega
  have g2 : ¬ (9223372036854775807 < d.size + B.size) := by have := HSZ.out; omega
  have g3 : ¬ (9223372036854775807 < 1 + d.size) := by have := HSZ.out; omega
  have g4 : ¬ (9223372036854775807 < 1 + d.size + B.size) := by have := HSZ.out; omega
  have hz : ((⟨#[45]⟩ : ByteArray) ++ d ++ B).size ≤ 281474976710656 := by rw [ByteArray.size_append, ByteArray.size_append]; have h1 : (⟨#[45]⟩ : ByteArray).size ≤ 1 := (by decide); have := HSZ.out; omega
  have hpi := fun W => Tryz.strconv_ParseInt_10_at64_ok ((⟨#[45]⟩ : ByteArray) ++ d ++ B) (by omega) v HV.out W
  go_wp2_with (go_at_call 18; fail)
  refine (hpi _).mono ?_
  rintro e w5 ⟨rfl, hw5⟩
  have hb5 : Below w4.heap.size w4 w5 := by rcases hw5 with rfl | ⟨t_, rfl⟩; exact Below.refl _ _; exact ⟨rfl, rfl, rfl, by rw [Lib.bytesWorld_size]; omega, fun k hk => Lib.bytesWorld_at_old w4 _ t_ k hk⟩
  have HB := aK_ (zAE HB.out hb5)
  clear hb5 hpi
  go_wp2
  repeat (go_quiet (fail); try go_wp2)
  refine bodyPost_ret (results_list (rs := [.tmp 2, .tmp 3]) rfl (by simp) (.tmp (.tmp .nil))) rfl ?_
  exact ⟨rfl, by first | exact HB.out | exact zAU HB.out _⟩
set_option maxHeartbeats 4000000 in
set_option maxRecDepth 100000 in
theorem coins6range (s A B d : ByteArray) (o3 : Bool) (hcut : ∀ W, Calls Tryz.prog 14 #[.string s, .string ⟨#[46]⟩] W fun e w' => e = .returned (.tuple #[.string A, .string B, .bool true]) ∧ zAe W w') (hsg : deci_signed.f A = some (d, false, o3)) (hpl : deci_plain.f d = some true) (h2 : B.size = 2) (t : ByteArray) (htr : strings_Trim.f B digs = some t) (ht : t.toList = []) (hsz : A.size + B.size ≤ 281474976710000) (hdl : d.size ≤ A.size) (hv : Lib.parseIntB 64 (coinsT false d B).data.toList = .range) (w : World) (hG : GW w) :
    Calls Tryz.prog 7 #[.string s] w fun e w' => e = .returned (.tuple #[.int .i64 0, .int .i64 10]) ∧ Below w.heap.size w w' := by
  have f2 : ((B.size : Int) != 2) = false := bne_eq_false_iff_eq.mpr (by omega)
  have f3 : (t.toList != ([] : List UInt8)) = false := bne_eq_false_iff_eq.mpr ht
  have f3e : t.toList.isEmpty = true := by rw [ht]; rfl
  clear h2
  clear ht
  have hsg_ := fun W => deci_signed.calls A d false o3 W hsg
  have hpl_ := fun W => deci_plain.calls d true W hpl
  have htr_ := fun W => strings_Trim.calls B digs t W htr
  clear hsg hpl htr
  have HV := aK_ hv
  have HSZ := aK_ (And.intro hsz hdl)
  clear hv hsz hdl
  have HG := aK_ hG
  clear hG
  go_enter Tryz.func7, Tryz.ntmps7
  go_wp2_with (go_at_call 14; fail)
  refine (hcut _).mono ?_
  rintro e w1 ⟨rfl, hd⟩
  obtain ⟨m, rfl⟩ := hd
  have HB := aK_ (zAU (Below.refl w.heap.size w) m)
  clear hcut
  go_wp2_with (go_at_call 15; fail)
  refine (hsg_ _).mono ?_
  rintro e w2 ⟨rfl, hb⟩
  have HB := aK_ (zAE HB.out hb)
  clear hb hsg_
  go_wp2_with (go_at_call 16; fail)
  refine (hpl_ _).mono ?_
  rintro e w3 ⟨rfl, hb⟩
  have HB := aK_ (zAE HB.out hb)
  clear hb hpl_
  go_wp2_with (go_at_call 17; fail)
  refine (htr_ _).mono ?_
  rintro e w4 ⟨rfl, hb⟩
  have HB := aK_ (zAE HB.out hb)
  clear hb htr_
  have g1 : ¬ (9223372036854775807 < d.size) := by have := HSZ.out; omega
  have g2 : ¬ (9223372036854775807 < d.size + B.size) := by have := HSZ.out; omega
  have g3 : ¬ (9223372036854775807 < 1 + d.size) := by have := HSZ.out; omega
  have g4 : ¬ (9223372036854775807 < 1 + d.size + B.size) := by have := HSZ.out; omega
  have hz : ((⟨#[]⟩ : ByteArray) ++ d ++ B).size ≤ 281474976710656 := by rw [ByteArray.size_append, ByteArray.size_append]; have h1 : (⟨#[]⟩ : ByteArray).size ≤ 1 := (by decide); have := HSZ.out; omega
  obtain ⟨tp, pe, hvar⟩ := (GW.below HG.out HB.out).rng
  have hpi := Tryz.strconv_ParseInt_10_at64_range_var ((⟨#[]⟩ : ByteArray) ++ d ++ B) hz HV.out tp pe w4 hvar
  clear hvar
  go_wp2_with (go_at_call 18; fail)
  refine hpi.mono ?_
  rintro e w5 ⟨N_, rfl, hN_, hcN_, hb5⟩
  clear hN_ hcN_
  have HB := aK_ (zAE HB.out hb5)
  clear hb5 hpi
  go_wp2
  repeat (go_quiet (fail); try go_wp2)
  refine bodyPost_ret (results_list (rs := [.tmp 2, .tmp 3]) rfl (by simp) (.tmp (.tmp .nil))) rfl ?_
  exact ⟨rfl, by first | exact HB.out | exact zAU HB.out _⟩
set_option maxHeartbeats 4000000 in
set_option maxRecDepth 100000 in
theorem coins7range (s A B d : ByteArray) (o3 : Bool) (hcut : ∀ W, Calls Tryz.prog 14 #[.string s, .string ⟨#[46]⟩] W fun e w' => e = .returned (.tuple #[.string A, .string B, .bool true]) ∧ zAe W w') (hsg : deci_signed.f A = some (d, true, o3)) (hpl : deci_plain.f d = some true) (h2 : B.size = 2) (t : ByteArray) (htr : strings_Trim.f B digs = some t) (ht : t.toList = []) (hd : d.toList ≠ [48]) (hsz : A.size + B.size ≤ 281474976710000) (hdl : d.size ≤ A.size) (hv : Lib.parseIntB 64 (coinsT true d B).data.toList = .range) (w : World) (hG : GW w) :
    Calls Tryz.prog 7 #[.string s] w fun e w' => e = .returned (.tuple #[.int .i64 0, .int .i64 10]) ∧ Below w.heap.size w w' := by
  have f2 : ((B.size : Int) != 2) = false := bne_eq_false_iff_eq.mpr (by omega)
  have f3 : (t.toList != ([] : List UInt8)) = false := bne_eq_false_iff_eq.mpr ht
  have f3e : t.toList.isEmpty = true := by rw [ht]; rfl
  have f4 : (d.toList == ([48] : List UInt8)) = false := beq_eq_false_iff_ne.mpr hd
  clear h2
  clear ht
  clear hd
  have hsg_ := fun W => deci_signed.calls A d true o3 W hsg
  have hpl_ := fun W => deci_plain.calls d true W hpl
  have htr_ := fun W => strings_Trim.calls B digs t W htr
  clear hsg hpl htr
  have HV := aK_ hv
  have HSZ := aK_ (And.intro hsz hdl)
  clear hv hsz hdl
  have HG := aK_ hG
  clear hG
  go_enter Tryz.func7, Tryz.ntmps7
  go_wp2_with (go_at_call 14; fail)
  refine (hcut _).mono ?_
  rintro e w1 ⟨rfl, hd⟩
  obtain ⟨m, rfl⟩ := hd
  have HB := aK_ (zAU (Below.refl w.heap.size w) m)
  clear hcut
  go_wp2_with (go_at_call 15; fail)
  refine (hsg_ _).mono ?_
  rintro e w2 ⟨rfl, hb⟩
  have HB := aK_ (zAE HB.out hb)
  clear hb hsg_
  go_wp2_with (go_at_call 16; fail)
  refine (hpl_ _).mono ?_
  rintro e w3 ⟨rfl, hb⟩
  have HB := aK_ (zAE HB.out hb)
  clear hb hpl_
  go_wp2_with (go_at_call 17; fail)
  refine (htr_ _).mono ?_
  rintro e w4 ⟨rfl, hb⟩
  have HB := aK_ (zAE HB.out hb)
  clear hb htr_
  have g1 : ¬ (9223372036854775807 < d.size) := by have := HSZ.out; omega
  have g2 : ¬ (9223372036854775807 < d.size + B.size) := by have := HSZ.out; omega
  have g3 : ¬ (9223372036854775807 < 1 + d.size) := by have := HSZ.out; omega
  have g4 : ¬ (9223372036854775807 < 1 + d.size + B.size) := by have := HSZ.out; omega
  have hz : ((⟨#[45]⟩ : ByteArray) ++ d ++ B).size ≤ 281474976710656 := by rw [ByteArray.size_append, ByteArray.size_append]; have h1 : (⟨#[45]⟩ : ByteArray).size ≤ 1 := (by decide); have := HSZ.out; omega
  obtain ⟨tp, pe, hvar⟩ := (GW.below HG.out HB.out).rng
  have hpi := Tryz.strconv_ParseInt_10_at64_range_var ((⟨#[45]⟩ : ByteArray) ++ d ++ B) hz HV.out tp pe w4 hvar
  clear hvar
  go_wp2_with (go_at_call 18; fail)
  refine hpi.mono ?_
  rintro e w5 ⟨N_, rfl, hN_, hcN_, hb5⟩
  clear hN_ hcN_
  have HB := aK_ (zAE HB.out hb5)
  clear hb5 hpi
  go_wp2
  repeat (go_quiet (fail); try go_wp2)
  refine bodyPost_ret (results_list (rs := [.tmp 2, .tmp 3]) rfl (by simp) (.tmp (.tmp .nil))) rfl ?_
  exact ⟨rfl, by first | exact HB.out | exact zAU HB.out _⟩
set_option maxHeartbeats 4000000 in
set_option maxRecDepth 100000 in
theorem coins8range (s A B d : ByteArray) (o3 : Bool) (hcut : ∀ W, Calls Tryz.prog 14 #[.string s, .string ⟨#[46]⟩] W fun e w' => e = .returned (.tuple #[.string A, .string B, .bool true]) ∧ zAe W w') (hsg : deci_signed.f A = some (d, true, o3)) (hpl : deci_plain.f d = some true) (h2 : B.size = 2) (t : ByteArray) (htr : strings_Trim.f B digs = some t) (ht : t.toList = []) (hd : d.toList = [48]) (hr : B.toList ≠ [48, 48]) (hsz : A.size + B.size ≤ 281474976710000) (hdl : d.size ≤ A.size) (hv : Lib.parseIntB 64 (coinsT true d B).data.toList = .range) (w : World) (hG : GW w) :
    Calls Tryz.prog 7 #[.string s] w fun e w' => e = .returned (.tuple #[.int .i64 0, .int .i64 10]) ∧ Below w.heap.size w w' := by
  have f2 : ((B.size : Int) != 2) = false := bne_eq_false_iff_eq.mpr (by omega)
  have f3 : (t.toList != ([] : List UInt8)) = false := bne_eq_false_iff_eq.mpr ht
  have f3e : t.toList.isEmpty = true := by rw [ht]; rfl
  have f4 : (d.toList == ([48] : List UInt8)) = true := beq_iff_eq.mpr hd
  have f5 : (B.toList == ([48, 48] : List UInt8)) = false := beq_eq_false_iff_ne.mpr hr
  clear h2
  clear ht
  clear hd
  clear hr
  have hsg_ := fun W => deci_signed.calls A d true o3 W hsg
  have hpl_ := fun W => deci_plain.calls d true W hpl
  have htr_ := fun W => strings_Trim.calls B digs t W htr
  clear hsg hpl htr
  have HV := aK_ hv
  have HSZ := aK_ (And.intro hsz hdl)
  clear hv hsz hdl
  have HG := aK_ hG
  clear hG
  go_enter Tryz.func7, Tryz.ntmps7
  go_wp2_with (go_at_call 14; fail)
  refine (hcut _).mono ?_
  rintro e w1 ⟨rfl, hd⟩
  obtain ⟨m, rfl⟩ := hd
  have HB := aK_ (zAU (Below.refl w.heap.size w) m)
  clear hcut
  go_wp2_with (go_at_call 15; fail)
  refine (hsg_ _).mono ?_
  rintro e w2 ⟨rfl, hb⟩
  have HB := aK_ (zAE HB.out hb)
  clear hb hsg_
  go_wp2_with (go_at_call 16; fail)
  refine (hpl_ _).mono ?_
  rintro e w3 ⟨rfl, hb⟩
  have HB := aK_ (zAE HB.out hb)
  clear hb hpl_
  go_wp2_with (go_at_call 17; fail)
  refine (htr_ _).mono ?_
  rintro e w4 ⟨rfl, hb⟩
  have HB := aK_ (zAE HB.out hb)
  clear hb htr_
  have g1 : ¬ (9223372036854775807 < d.size) := by have := HSZ.out; omega
  have g2 : ¬ (9223372036854775807 < d.size + B.size) := by have := HSZ.out; omega
  have g3 : ¬ (9223372036854775807 < 1 + d.size) := by have := HSZ.out; omega
  have g4 : ¬ (9223372036854775807 < 1 + d.size + B.size) := by have := HSZ.out; omega
  have hz : ((⟨#[45]⟩ : ByteArray) ++ d ++ B).size ≤ 281474976710656 := by rw [ByteArray.size_append, ByteArray.size_append]; have h1 : (⟨#[45]⟩ : ByteArray).size ≤ 1 := (by decide); have := HSZ.out; omega
  obtain ⟨tp, pe, hvar⟩ := (GW.below HG.out HB.out).rng
  have hpi := Tryz.strconv_ParseInt_10_at64_range_var ((⟨#[45]⟩ : ByteArray) ++ d ++ B) hz HV.out tp pe w4 hvar
  clear hvar
  go_wp2_with (go_at_call 18; fail)
  refine hpi.mono ?_
  rintro e w5 ⟨N_, rfl, hN_, hcN_, hb5⟩
  clear hN_ hcN_
  have HB := aK_ (zAE HB.out hb5)
  clear hb5 hpi
  go_wp2
  repeat (go_quiet (fail); try go_wp2)
  refine bodyPost_ret (results_list (rs := [.tmp 2, .tmp 3]) rfl (by simp) (.tmp (.tmp .nil))) rfl ?_
  exact ⟨rfl, by first | exact HB.out | exact zAU HB.out _⟩
def coinsEnd (bl : Bool) (d r : ByteArray) : Option (Int × Int) := match Lib.parseIntB 64 (coinsT bl d r).data.toList with
  | .ok v => some (v, 0)
  | .range => some (0, 10)
  | .«syntax» => none
def coinsI (A B d : ByteArray) (bl : Bool) : Option (Int × Int) := if bl = true ∧ d.toList = [48] ∧ B.toList = [48, 48] then some (0, 30) else if A.size + B.size ≤ 281474976710000 ∧ d.size ≤ A.size then coinsEnd bl d B else none
def coinsF (A B : ByteArray) (c : Bool) : Option (Int × Int) := (deci_signed.f A).bind fun g => if c = true then (deci_plain.f g.1).bind fun p => (if p = true then (if B.size = 2 then (strings_Trim.f B digs).bind fun t => (if t.toList = [] then coinsI A B g.1 g.2.1 else some (0, 30)) else some (0, 30)) else some (0, 30)) else some (0, 30)
def deci_Coins.f (s : ByteArray) : Option (Int × Int) := if s.size ≤ 9223372036854775806 then coinsF (cutA s 46) (cutB s 46) (cutC s 46) else none
theorem deci_Coins.calls (a0 : ByteArray) (r1 r2 : Int) (w : World) (hG : GW w) (h : deci_Coins.f a0 = some (r1, r2)) :
    Calls Tryz.prog 7 #[.string a0] w fun e w' => e = .returned (.tuple #[.int .i64 r1, .int .i64 r2]) ∧ Below w.heap.size w w' := by
  unfold deci_Coins.f at h
  split at h
  · rename_i hs
    have hcut := fun W => cut_c a0 46 hs W
    generalize cutA a0 46 = A at hcut h
    generalize cutB a0 46 = B at hcut h
    generalize cutC a0 46 = c at hcut h
    unfold coinsF at h
    obtain ⟨⟨d, bl, o3⟩, hsg, h⟩ := Option.bind_eq_some_iff.1 h
    cases c with
    | false =>
      rw [if_neg (by decide)] at h
      have h_ := Option.some.inj h
      injection h_ with e1 e2
      subst e1; subst e2
      exact coins1 a0 A B d o3 hcut bl hsg w hG
    | true =>
      rw [if_pos rfl] at h
      obtain ⟨p, hpl, h⟩ := Option.bind_eq_some_iff.1 h
      cases p with
      | false =>
        rw [if_neg (by decide)] at h
        have h_ := Option.some.inj h
        injection h_ with e1 e2
        subst e1; subst e2
        exact coins2 a0 A B d o3 hcut bl hsg hpl w hG
      | true =>
        rw [if_pos rfl] at h
        by_cases h2 : B.size = 2
        · rw [if_pos h2] at h
          obtain ⟨t, htr, h⟩ := Option.bind_eq_some_iff.1 h
          by_cases ht : t.toList = []
          · rw [if_pos ht] at h
            unfold coinsI at h
            by_cases h3 : bl = true ∧ d.toList = [48] ∧ B.toList = [48, 48]
            · replace h := (if_pos h3).symm.trans h
              have h_ := Option.some.inj h
              injection h_ with e1 e2
              subst e1; subst e2
              obtain ⟨rfl, hd, hr⟩ := h3
              exact coins5 a0 A B d o3 hcut hsg hpl h2 t htr ht hd hr w hG
            · replace h := (if_neg h3).symm.trans h
              by_cases h4 : A.size + B.size ≤ 281474976710000 ∧ d.size ≤ A.size
              · replace h := (if_pos h4).symm.trans h
                unfold coinsEnd at h
                obtain ⟨h4a, h4b⟩ := h4
                split at h
                · rename_i v hv
                  have h_ := Option.some.inj h
                  injection h_ with e1 e2
                  subst e1; subst e2
                  cases bl with
                  | false => exact coins6ok a0 A B d o3 hcut hsg hpl h2 t htr ht h4a h4b v hv w hG
                  | true =>
                    by_cases hd : d.toList = [48]
                    · exact coins8ok a0 A B d o3 hcut hsg hpl h2 t htr ht hd (fun hr => h3 ⟨rfl, hd, hr⟩) h4a h4b v hv w hG
                    · exact coins7ok a0 A B d o3 hcut hsg hpl h2 t htr ht hd h4a h4b v hv w hG
                · rename_i hv
                  have h_ := Option.some.inj h
                  injection h_ with e1 e2
                  subst e1; subst e2
                  cases bl with
                  | false => exact coins6range a0 A B d o3 hcut hsg hpl h2 t htr ht h4a h4b hv w hG
                  | true =>
                    by_cases hd : d.toList = [48]
                    · exact coins8range a0 A B d o3 hcut hsg hpl h2 t htr ht hd (fun hr => h3 ⟨rfl, hd, hr⟩) h4a h4b hv w hG
                    · exact coins7range a0 A B d o3 hcut hsg hpl h2 t htr ht hd h4a h4b hv w hG
                · cases h
              · replace h := (if_neg h4).symm.trans h
                cases h
          · rw [if_neg ht] at h
            have h_ := Option.some.inj h
            injection h_ with e1 e2
            subst e1; subst e2
            exact coins4 a0 A B d o3 hcut bl hsg hpl h2 t htr ht w hG
        · rw [if_neg h2] at h
          have h_ := Option.some.inj h
          injection h_ with e1 e2
          subst e1; subst e2
          exact coins3 a0 A B d o3 hcut bl hsg hpl h2 w hG
  · cases h
end Go.Proofs.YtkikekiokclmdaaGreatDoor.S
