/- What the proof needs, part 10 of 18. DeciMoney answers true for every list of numbers and every list of strings; the input reads as it did. -/
import Derived.Lib.Walk
import Derived.Lib.ItoaMem
import Derived.Lib.AppendIntMem
import Derived.WalkKit
import Derived.BigCall
import Derived.BigGuard
import Derived.Test.YtkikekiokclmdaaGreatDoorBDeciMoney8
import Derived.Test.YtkikekiokclmdaaGreatDoorBDeciMoney5
import Derived.Test.YtkikekiokclmdaaGreatDoorBDeciMoney6
set_option linter.unusedVariables false
set_option linter.unusedSimpArgs false
namespace Go.Proofs.YtkikekiokclmdaaGreatDoor.S
open Go.RowKit Go.Sort Go.Lib Go.Proofs.YtkikekiokclmdaaGreatDoorW.PrintWords Go.Proofs.YtkikekiokclmdaaGreatDoorW.PrintLast Go.Proofs.YtkikekiokclmdaaGreatDoorW.PrintMore
def strconv_FormatUint_12.f (n base : Int) : Option ByteArray := if base = 10 ∧ 0 ≤ n ∧ n < 18446744073709551616 then some ⟨(Lib.decDigits n.toNat).toArray⟩ else none
set_option pp.maxSteps 3000 in
set_option maxHeartbeats 6400000 in
set_option maxRecDepth 100000 in
theorem fmtU_inner (u : Nat) (hu64 : u < 18446744073709551616) (w : World) (htab : Lib.TabIs Tryz.prog w "internal/strconv.uint64pow10" .u64 Lib.pow10Tab) :
    Calls Tryz.prog 28 #[.int .u64 u, .int .i64 10] w fun e w' => e = .returned (.string ⟨(Lib.decDigits u).toArray⟩) ∧ ∃ k os, w' = grow (w.drewN k) os := by
  by_cases hs : u < 100
  · have c0 : decide ((u : Int) < 100) = true := decide_eq_true (by omega)
    have cw : IntKind.i64.wrap (u : Int) = (u : Int) := by rw [IntKind.wrap_i64]; omega
    go_enter Tryz.func28, Tryz.ntmps28
    go_wp2_with (go_at_call 51; refine (Tryz.internal_strconv_small u hs _).mono ?_; rintro e w' ⟨rfl, rfl⟩)
    go_ret
    exact ⟨rfl, 0, #[], by simp [World.drewN_zero, grow]⟩
  · have hu1 : 1 ≤ u := by omega
    have c0 : decide ((u : Int) < 100) = false := decide_eq_false (by omega)
    have hnd20 : Lib.nDigits u ≤ 20 := by have := Lib.numDigits_eq u hu1 hu64; split at this <;> omega
    have t92 := Tryz.underlying77
    have t46 := Tryz.underlying38
    have hal : Tryz.prog.arrayLen 77 = 24 := by simp [Program.arrayLen, t92]
    have hsl1 : ∀ W, (Instr.sliceAt 77 (.pointer (some ⟨w.heap.size, 0, none⟩)) none (some (.int .i64 (Lib.nDigits u : Int))) none).run Tryz.prog W = .ok (.slice (some ⟨w.heap.size, 0, none⟩) (Lib.nDigits u) 24) W := fun W => by
      rw [run_sliceAt_array_h W 77 ⟨w.heap.size, 0, none⟩ (by simp [Program.arrayLen, Program.elem, t92]) .i64 (Lib.nDigits u : Int) (by omega) (by rw [hal]; omega)]
      go_simp
    have hH0 : Holds (fun (b : UInt8) => Value.int .u8 (b.toNat : Int)) (w.alloc (.cells Lib.zeros24 77)) w.heap.size 0 (Array.replicate (Lib.nDigits u) 0) := Lib.holds_zero0 w 77 (Lib.nDigits u) (by omega)
    have hfmt := Tryz.internal_strconv_formatBase10 w.heap.size 0 24 u (Array.replicate (Lib.nDigits u) 0) (w.alloc (.cells Lib.zeros24 77)) hH0 (by rw [Array.size_replicate]; exact Lib.lt_pow_nDigits u) hu64 (by rw [Array.size_replicate]; omega)
    rw [Array.size_replicate] at hfmt
    have HH0 := Lib.hid hH0
    clear hH0 hal
    go_enter Tryz.func28, Tryz.ntmps28
    go_wp2_with (first
      | (go_at_call 52; refine (Tryz.internal_strconv_numDigits u hu1 hu64 _ (Lib.tabIs_alloc htab _)).mono ?_; rintro e w' ⟨rfl, rfl⟩))
    go_at_call 53
    refine hfmt.mono ?_
    rintro e w' ⟨rfl, k, v', dk, rfl, hF⟩
    have hcv : (convert 38 9 (.slice (some ⟨w.heap.size, 0, none⟩) (Lib.nDigits u) 24)).run Tryz.prog ((putRow (fun (b : UInt8) => Value.int .u8 (b.toNat : Int)) (w.alloc (.cells Lib.zeros24 77)) w.heap.size 0 dk).drewN k) = .ok (.string ⟨(Lib.decDigits u).toArray⟩) ((putRow (fun (b : UInt8) => Value.int .u8 (b.toNat : Int)) (w.alloc (.cells Lib.zeros24 77)) w.heap.size 0 dk).drewN k) := by
      have h := run_convert_bytes_back (P := Tryz.prog) ((putRow (fun (b : UInt8) => Value.int .u8 (b.toNat : Int)) (w.alloc (.cells Lib.zeros24 77)) w.heap.size 0 dk).drewN k) 38 9 5 ⟨w.heap.size, 0, none⟩ 24 (Lib.decDigits u) Tryz.underlying38 Tryz.underlying5 Tryz.underlying9 (fun j hj => by
        rw [Lib.row_is_numeral hF j hj, Lib.add_plain, World.cell?_drewN]
        exact cell?_putRow (fun (b : UInt8) => Value.int .u8 (b.toNat : Int)) _ w.heap.size 0 _ dk HH0.out (by rw [hF.size, Array.size_replicate]) j (by rw [hF.size]; rw [Lib.decDigits_length] at hj; exact hj))
      rw [Lib.decDigits_length] at h
      exact h
    go_wp2
    go_ret
    obtain ⟨os, eo⟩ := Lib.fin_at w (.cells Lib.zeros24 77) dk k 0
    exact ⟨rfl, k, os, eo⟩
set_option maxHeartbeats 1600000 in
theorem strconv_FormatUint_12.calls (a0 a1 : Int) (r : ByteArray) (w : World) (hG : GW w) (h : strconv_FormatUint_12.f a0 a1 = some r) :
    Calls Tryz.prog 12 #[.int .u64 a0, .int .i64 a1] w fun e w' => e = .returned (.string r) ∧ Below w.heap.size w w' := by
  unfold strconv_FormatUint_12.f at h
  split at h
  · rename_i hh
    obtain ⟨rfl, h1, h2⟩ := hh
    obtain rfl := Option.some.inj h
    obtain ⟨u, rfl⟩ := Int.eq_ofNat_of_zero_le h1
    have hc := fun W hT => fmtU_inner u (by omega) W hT
    have ht := hG.tab
    clear h h1 h2
    go_enter Tryz.func12, Tryz.ntmps12
    go_wp2_with (go_at_call 28; refine (hc _ ht).mono ?_; rintro e w' ⟨rfl, k, os, rfl⟩)
    go_ret
    exact ⟨rfl, below_grow w k os⟩
  · cases h
end Go.Proofs.YtkikekiokclmdaaGreatDoor.S

namespace Go.Proofs.YtkikekiokclmdaaGreatDoor.S
open Go.RowKit Go.Proofs.YtkikekiokclmdaaGreatDoorW.PrintWords Go.Proofs.YtkikekiokclmdaaGreatDoorW.PrintLast Go.Proofs.YtkikekiokclmdaaGreatDoorW.PrintMore
attribute [local go_sem] max2_int min2_int max_two min_two max_three min_three max_four min_four
def deci_Money.j0:Nat→ByteArray→Int→Option (ByteArray)
 |0,_,_=>none
 |k+1,x3,x4=>(strconv_FormatUint_12.f (Int.tmod x4 100) 10).bind fun t101=>(if (t101.size:Int)<2 then (if 1+t101.size≤9223372036854775807 then ((strconv_FormatUint_12.f (IntKind.u64.wrap (Int.tdiv x4 100)) 10).bind fun t102=>(if x3.size+t102.size≤9223372036854775807 then (if (x3 ++ t102).size+1≤9223372036854775807 then (if ((x3 ++ t102) ++ (⟨#[46]⟩:ByteArray)).size+((⟨#[48]⟩:ByteArray) ++ t101).size≤9223372036854775807 then (some (((x3 ++ t102) ++ (⟨#[46]⟩:ByteArray)) ++ ((⟨#[48]⟩:ByteArray) ++ t101))) else (none)) else (none)) else (none))) else (none)) else ((strconv_FormatUint_12.f (IntKind.u64.wrap (Int.tdiv x4 100)) 10).bind fun t103=>(if x3.size+t103.size≤9223372036854775807 then (if (x3 ++ t103).size+1≤9223372036854775807 then (if ((x3 ++ t103) ++ (⟨#[46]⟩:ByteArray)).size+t101.size≤9223372036854775807 then (some (((x3 ++ t103) ++ (⟨#[46]⟩:ByteArray)) ++ t101)) else (none)) else (none)) else (none))))
def deci_Money.f (k:Nat) (a0:Int):Option (ByteArray):=if a0<0 then (deci_Money.j0 k (⟨#[45]⟩:ByteArray) (IntKind.u64.wrap (-(IntKind.u64.wrap (a0))))) else (deci_Money.j0 k (⟨#[]⟩:ByteArray) (IntKind.u64.wrap (a0)))
theorem deci_Money.mono_l:∀ k,(∀ y0 y1,LeO (deci_Money.j0 k y0 y1) (deci_Money.j0 (k+1) y0 y1))
 |0=>fun _ _ r h=>by simp [deci_Money.j0] at h
 |k+1=>by
  have ih0:=deci_Money.mono_l k
  ·intro y0 y1
   unfold deci_Money.j0
   repeat' first
   |(with_reducible exact ih0 _ _)
   |(with_reducible exact LeO.refl _)
   |(with_reducible exact LeO.none _)
   |(with_reducible refine LeO.ite ?_ ?_)
   |(with_reducible refine LeO.bind ?_ (fun _=>?_))
   |exact ih0 _ _
   |exact LeO.none _
   |refine LeO.ite ?_ ?_
   |refine LeO.bind ?_ (fun _=>?_)
theorem deci_Money.mono:∀ a0 k,LeO (deci_Money.f k a0) (deci_Money.f (k+1) a0):=by
 intro a0 k
 have ih0:=deci_Money.mono_l k
 unfold deci_Money.f
 repeat' first
   |(with_reducible exact ih0 _ _)
   |(with_reducible exact LeO.refl _)
   |(with_reducible exact LeO.none _)
   |(with_reducible refine LeO.ite ?_ ?_)
   |(with_reducible refine LeO.bind ?_ (fun _=>?_))
   |exact ih0 _ _
   |exact LeO.none _
   |refine LeO.ite ?_ ?_
   |refine LeO.bind ?_ (fun _=>?_)
set_option maxHeartbeats 8000000 in
set_option maxRecDepth 100000 in
theorem deci_Money.calls (k:Nat) (a0:Int) (r:ByteArray) (w:World) (hG:GW w) (h:deci_Money.f k a0=some r) :
  Calls Tryz.prog 5 #[.int .i64 a0] w fun e w'=>e = .returned (.string r)∧Below w.heap.size w w':=by
 have HB:=aK_ (Below.refl w.heap.size w)
 have H:(if a0<0 then (deci_Money.j0 k (⟨#[45]⟩:ByteArray) (IntKind.u64.wrap (-(IntKind.u64.wrap (a0))))) else (deci_Money.j0 k (⟨#[]⟩:ByteArray) (IntKind.u64.wrap (a0))))=some r:=h
 clear h
 have HC2:=aK_ H
 clear H
 go_enter Tryz.func5,Tryz.ntmps5
 go_upto_if 9 with (fail)
 go_cut [3,4] (fun v3 v4 wc=>∃ (kq:Nat) (x3_1:ByteArray) (x4_1:Int),v3 = .string x3_1∧v4 = .int .u64 x4_1∧zAG (deci_Money.j0 kq x3_1 x4_1=some r)∧zAG (kq≤k)∧zAG (Below w.heap.size w wc))
 case first =>
  have H:=HC2.out
  clear HC2
  by_cases c3:a0<0
  rotate_left
  ·rw [if_neg c3] at H
   have c3b0:decide (a0<0)=false:=decide_eq_false c3
   clear c3
   (first|rw [c3b0]|(simp only [zAO,zAR];rw [c3b0])|skip)
   have H':=aK_ H
   clear H
   go_wp2
   go_meet
   case rel=>exact ⟨_,((⟨#[]⟩:ByteArray)),(IntKind.u64.wrap (a0)),aS2_,aS2_,H',⟨by first|omega|exact Nat.le_refl _⟩,⟨aH_ HB.out⟩⟩
  rw [if_pos c3] at H
  have c3b0:decide (a0<0)=true:=decide_eq_true c3
  clear c3
  (first|rw [c3b0]|(simp only [zAO,zAR];rw [c3b0])|skip)
  have H':=aK_ H
  clear H
  go_wp2
  go_meet
  case rel=>exact ⟨_,((⟨#[45]⟩:ByteArray)),(IntKind.u64.wrap (-(IntKind.u64.wrap (a0)))),aS2_,aS2_,H',⟨by first|omega|exact Nat.le_refl _⟩,⟨aH_ HB.out⟩⟩
 clear HC2
 try clear p2
 try clear c3
 try clear c3b0
 obtain ⟨kq,x3_1,x4_1,rfl,rfl,HA,HJ1,HB⟩:=hcut
 cases kq with
 |zero=>exact absurd HA.out (by simp [deci_Money.j0])
 |succ kj1=>?_
 have H:=HA.out
 clear HA
 simp only [deci_Money.j0] at H
 replace H:=Option.bind_eq_some_iff.mp H
 obtain ⟨t101,A40,H⟩:=H
 replace H:(if (t101.size:Int)<2 then (if 1+t101.size≤9223372036854775807 then ((strconv_FormatUint_12.f (IntKind.u64.wrap (Int.tdiv x4_1 100)) 10).bind fun t102=>(if x3_1.size+t102.size≤9223372036854775807 then (if (x3_1 ++ t102).size+1≤9223372036854775807 then (if ((x3_1 ++ t102) ++ (⟨#[46]⟩:ByteArray)).size+((⟨#[48]⟩:ByteArray) ++ t101).size≤9223372036854775807 then (some (((x3_1 ++ t102) ++ (⟨#[46]⟩:ByteArray)) ++ ((⟨#[48]⟩:ByteArray) ++ t101))) else (none)) else (none)) else (none))) else (none)) else ((strconv_FormatUint_12.f (IntKind.u64.wrap (Int.tdiv x4_1 100)) 10).bind fun t103=>(if x3_1.size+t103.size≤9223372036854775807 then (if (x3_1 ++ t103).size+1≤9223372036854775807 then (if ((x3_1 ++ t103) ++ (⟨#[46]⟩:ByteArray)).size+t101.size≤9223372036854775807 then (some (((x3_1 ++ t103) ++ (⟨#[46]⟩:ByteArray)) ++ t101)) else (none)) else (none)) else (none))))=some r:=H
 have A4:=aK_ A40
 clear A40
 by_cases c5:(t101.size:Int)<2
 rotate_left
 ·rw [if_neg c5] at H
  have c5b0:decide ((t101.size:Int)<2)=false:=decide_eq_false c5
  have c5b1:decide (t101.size<2)=false:=decide_eq_false (by omega)
  clear c5
  replace H:=Option.bind_eq_some_iff.mp H
  obtain ⟨t103,A130,H⟩:=H
  replace H:(if x3_1.size+t103.size≤9223372036854775807 then (if (x3_1 ++ t103).size+1≤9223372036854775807 then (if ((x3_1 ++ t103) ++ (⟨#[46]⟩:ByteArray)).size+t101.size≤9223372036854775807 then (some (((x3_1 ++ t103) ++ (⟨#[46]⟩:ByteArray)) ++ t101)) else (none)) else (none)) else (none))=some r:=H
  have A13:=aK_ A130
  clear A130
  by_cases c14:x3_1.size+t103.size≤9223372036854775807
  rotate_left
  ·rw [if_neg c14] at H
   exact absurd H (by simp)
  rw [if_pos c14] at H
  have c14b0:=eq_true c14
  have c14b1:decide (x3_1.size+t103.size≤9223372036854775807)=true:=decide_eq_true c14
  try have c14b2:(9223372036854775807<x3_1.size+t103.size)=False:=eq_false (Nat.not_lt.2 c14)
  have c15:=yes_ H
  rw [if_pos c15] at H
  have c15s:x3_1.size+t103.size+1≤9223372036854775807:=by
   have h_:=c15
   rw [ByteArray.size_append] at h_
   exact h_
  have c15b0:=eq_true c15
  have c15b1:decide ((x3_1 ++ t103).size+1≤9223372036854775807)=true:=decide_eq_true c15
  try have c15b2:(9223372036854775807<(x3_1 ++ t103).size+1)=False:=eq_false (Nat.not_lt.2 c15)
  have c16:=yes_ H
  rw [if_pos c16] at H
  have c16s:(x3_1 ++ t103).size+1+t101.size≤9223372036854775807:=by
   have h_:=c16
   rw [ByteArray.size_append] at h_
   exact h_
  have c16b0:=eq_true c16
  have c16b1:decide (((x3_1 ++ t103) ++ (⟨#[46]⟩:ByteArray)).size+t101.size≤9223372036854775807)=true:=decide_eq_true c16
  try have c16b2:(9223372036854775807<((x3_1 ++ t103) ++ (⟨#[46]⟩:ByteArray)).size+t101.size)=False:=eq_false (Nat.not_lt.2 c16)
  obtain rfl:=Option.some.inj H
  go_wp2_with (first|((with_reducible refine zAM (f:=12) rfl ?_);refine goesL_ (some 14) rfl rfl Tryz.func12 (by kernel_rfl) rfl #[.int .u64 (Int.tmod x4_1 100),.int .i64 10] rfl aM_ ?_;(with_reducible refine (strconv_FormatUint_12.calls (Int.tmod x4_1 100) 10 t101 _ ?side1 A4.out).mono ?_);(case side1=>(first|(with_reducible exact hG)|((repeat (with_reducible first|exact hG|apply GW.drewN|apply GW.drew|apply GW.alloc));done)|exact GW.below hG (aH_ HB.out)));rintro e w17 ⟨rfl,hb⟩;refine ⟨_,rfl,?_⟩;have n0_:=aK_ (zAE (aH_ HB.out) hb);clear HB;have HB:=n0_;clear n0_;(try clear hb);(try clear hb2);(try clear hk);(try clear hi))|((with_reducible refine zAM (f:=12) rfl ?_);refine goesL_ (some 23) rfl rfl Tryz.func12 (by kernel_rfl) rfl #[.int .u64 (IntKind.u64.wrap (Int.tdiv x4_1 100)),.int .i64 10] rfl aM_ ?_;(with_reducible refine (strconv_FormatUint_12.calls (IntKind.u64.wrap (Int.tdiv x4_1 100)) 10 t103 _ ?side1 A13.out).mono ?_);(case side1=>(first|(with_reducible exact hG)|((repeat (with_reducible first|exact hG|apply GW.drewN|apply GW.drew|apply GW.alloc));done)|exact GW.below hG (aH_ HB.out)));rintro e w18 ⟨rfl,hb⟩;refine ⟨_,rfl,?_⟩;have n0_:=aK_ (zAE (aH_ HB.out) hb);clear HB;have HB:=n0_;clear n0_;(try clear hb);(try clear hb2);(try clear hk);(try clear hi)))
  go_ret
  exact ⟨by first|rfl|(simp [zAP,zAQ] <;> rfl)|(simp [*,zAP,zAQ] <;> rfl),aH_ HB.out⟩
 rw [if_pos c5] at H
 have c5b0:decide ((t101.size:Int)<2)=true:=decide_eq_true c5
 have c5b1:decide (t101.size<2)=true:=decide_eq_true (by omega)
 clear c5
 have c6:=yes_ H
 rw [if_pos c6] at H
 have c6b0:=eq_true c6
 have c6b1:decide (1+t101.size≤9223372036854775807)=true:=decide_eq_true c6
 try have c6b2:(9223372036854775807<1+t101.size)=False:=eq_false (Nat.not_lt.2 c6)
 replace H:=Option.bind_eq_some_iff.mp H
 obtain ⟨t102,A70,H⟩:=H
 replace H:(if x3_1.size+t102.size≤9223372036854775807 then (if (x3_1 ++ t102).size+1≤9223372036854775807 then (if ((x3_1 ++ t102) ++ (⟨#[46]⟩:ByteArray)).size+((⟨#[48]⟩:ByteArray) ++ t101).size≤9223372036854775807 then (some (((x3_1 ++ t102) ++ (⟨#[46]⟩:ByteArray)) ++ ((⟨#[48]⟩:ByteArray) ++ t101))) else (none)) else (none)) else (none))=some r:=H
 have A7:=aK_ A70
 clear A70
 have c8:=yes_ H
 rw [if_pos c8] at H
 have c8b0:=eq_true c8
 have c8b1:decide (x3_1.size+t102.size≤9223372036854775807)=true:=decide_eq_true c8
 try have c8b2:(9223372036854775807<x3_1.size+t102.size)=False:=eq_false (Nat.not_lt.2 c8)
 have c9:=yes_ H
 rw [if_pos c9] at H
 have c9s:x3_1.size+t102.size+1≤9223372036854775807:=by
  have h_:=c9
  rw [ByteArray.size_append] at h_
  exact h_
 have c9b0:=eq_true c9
 have c9b1:decide ((x3_1 ++ t102).size+1≤9223372036854775807)=true:=decide_eq_true c9
 try have c9b2:(9223372036854775807<(x3_1 ++ t102).size+1)=False:=eq_false (Nat.not_lt.2 c9)
 have c10:=yes_ H
 rw [if_pos c10] at H
 have c10b0:=eq_true c10
 have c10b1:decide (((x3_1 ++ t102) ++ (⟨#[46]⟩:ByteArray)).size+((⟨#[48]⟩:ByteArray) ++ t101).size≤9223372036854775807)=true:=decide_eq_true c10
 try have c10b2:(9223372036854775807<((x3_1 ++ t102) ++ (⟨#[46]⟩:ByteArray)).size+((⟨#[48]⟩:ByteArray) ++ t101).size)=False:=eq_false (Nat.not_lt.2 c10)
 obtain rfl:=Option.some.inj H
 go_wp2_with (first|((with_reducible refine zAM (f:=12) rfl ?_);refine goesL_ (some 14) rfl rfl Tryz.func12 (by kernel_rfl) rfl #[.int .u64 (Int.tmod x4_1 100),.int .i64 10] rfl aM_ ?_;(with_reducible refine (strconv_FormatUint_12.calls (Int.tmod x4_1 100) 10 t101 _ ?side1 A4.out).mono ?_);(case side1=>(first|(with_reducible exact hG)|((repeat (with_reducible first|exact hG|apply GW.drewN|apply GW.drew|apply GW.alloc));done)|exact GW.below hG (aH_ HB.out)));rintro e w11 ⟨rfl,hb⟩;refine ⟨_,rfl,?_⟩;have n0_:=aK_ (zAE (aH_ HB.out) hb);clear HB;have HB:=n0_;clear n0_;(try clear hb);(try clear hb2);(try clear hk);(try clear hi))|((with_reducible refine zAM (f:=12) rfl ?_);refine goesL_ (some 23) rfl rfl Tryz.func12 (by kernel_rfl) rfl #[.int .u64 (IntKind.u64.wrap (Int.tdiv x4_1 100)),.int .i64 10] rfl aM_ ?_;(with_reducible refine (strconv_FormatUint_12.calls (IntKind.u64.wrap (Int.tdiv x4_1 100)) 10 t102 _ ?side1 A7.out).mono ?_);(case side1=>(first|(with_reducible exact hG)|((repeat (with_reducible first|exact hG|apply GW.drewN|apply GW.drew|apply GW.alloc));done)|exact GW.below hG (aH_ HB.out)));rintro e w12 ⟨rfl,hb⟩;refine ⟨_,rfl,?_⟩;have n0_:=aK_ (zAE (aH_ HB.out) hb);clear HB;have HB:=n0_;clear n0_;(try clear hb);(try clear hb2);(try clear hk);(try clear hi)))
 go_ret
 exact ⟨by first|rfl|(simp [zAP,zAQ] <;> rfl)|(simp [*,zAP,zAQ] <;> rfl),aH_ HB.out⟩
end Go.Proofs.YtkikekiokclmdaaGreatDoor.S
