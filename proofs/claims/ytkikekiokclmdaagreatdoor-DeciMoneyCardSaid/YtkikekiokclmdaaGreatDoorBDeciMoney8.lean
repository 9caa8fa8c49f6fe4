/- What the proof needs, part 8 of 18. DeciMoney answers true for every list of numbers and every list of strings; the input reads as it did. -/
import Derived.Laws.Externs
import Derived.Shelf.Spec.BitsCarry
import Derived.Shelf.Strings.SlTrimAscii
import Derived.Test.YtkikekiokclmdaaGreatDoorBDeciMoney5
import Derived.Test.YtkikekiokclmdaaGreatDoorBDeciMoney6
import Derived.Test.YtkikekiokclmdaaGreatDoorBDeciMoney7
import Derived.Test.YtkikekiokclmdaaGreatDoorBDeciMoney11
set_option linter.unusedVariables false
set_option linter.unusedSimpArgs false
namespace Go.Proofs.YtkikekiokclmdaaGreatDoor.S
open Go.RowKit Go.Proofs.YtkikekiokclmdaaGreatDoorW.PrintWords
def XCalls (P : Program) (f : FuncId) (args : Array Value) (w : World) (Q : Ending → World → Prop) : Prop := ∃ v w', (callFunc f args).run P w = .ok (.value v) w' ∧ Q (.returned v) w'
theorem XCalls.mono {P : Program} {f : FuncId} {args : Array Value} {w : World} {Q R : Ending → World → Prop} (h : XCalls P f args w Q) (hq : ∀ e w', Q e w' → R e w') : XCalls P f args w R := by
  obtain ⟨v, w', h1, h2⟩ := h
  exact ⟨v, w', h1, hq _ _ h2⟩
section
variable {P : Program} {ops : Array Oper} {Q : Exit → Act → World → Prop}
theorem goesX_ {rest : List Oper} {oi : Oper} {a : Act} {w : World} (N : Option Tmp) (hd : oi.dst = N) (hg : oi.guard = none) {f : FuncId} {fn : Func} {ars : Array Operand} {ts : Array TypeId} (hf : P.funcs[f]? = some fn) (hname : (fn.name == "runtime.NumGoroutine") = false) (hb : fn.body.isNone = true) (args : Array Value)
    (hop : oi.op = .call { callee := .value (.func f), args := ars, argTypes := ts }) (hargs : ars.map a.eval = args)
    (h : XCalls P f args w fun e w' => ∃ v, e = .returned v ∧ wpList P ops Q rest (a.put N v) w') : wpList P ops Q (oi :: rest) a w := by
  refine wpList_plain hg fun K hK => ?_
  obtain ⟨v, w', hx, v', e_, hk⟩ := h
  obtain rfl := Ending.returned.inj e_
  have hrun : (execOp a.eval oi).run P w = .ok (.value v) w' := by
    unfold execOp
    simp [hop, resolve, Deferred.ofValue, invoke, Act.eval, hargs, hx]
  unfold Oper.wp
  rw [hrun, Oper.upon_value]
  subst hd
  exact hK _ _ hk
theorem upon_x {o : Oper} {a : Act} {K : Act → World → Prop} {f : FuncId} {args : Array Value} {w : World} (h : XCalls P f args w fun e w' => ∃ v, e = .returned v ∧ K (a.put o.dst v) w') : o.upon P a K Q ((callFunc f args).run P w) := by
  obtain ⟨v, w', hx, v', e_, hk⟩ := h
  obtain rfl := Ending.returned.inj e_
  rw [hx, Oper.upon_value]
  exact hk
end
def bits_Add64.f (x y c : Int) : Option (Int × Int) := if 0 ≤ x ∧ 0 ≤ y ∧ 0 ≤ c ∧ c ≤ 1 then some ((x + y + c) % 18446744073709551616, (x + y + c) / 18446744073709551616) else none
theorem bits_Add64.calls (a0 a1 a2 r1 r2 : Int) (w : World) (h : bits_Add64.f a0 a1 a2 = some (r1, r2)) :
    XCalls Tryz.prog 46 #[.int .u64 a0, .int .u64 a1, .int .u64 a2] w fun e w' => e = .returned (.tuple #[.int .u64 r1, .int .u64 r2]) ∧ zAe w w' := by
  unfold bits_Add64.f at h
  split at h
  · rename_i hh
    obtain ⟨h1, h2, h3, h4⟩ := hh
    have h_ := Option.some.inj h
    injection h_ with e1 e2
    subst e1; subst e2
    refine ⟨_, w, ?_, rfl, zAe.refl w⟩
    rw [run_callFunc_extern Tryz.func46 (by kernel_rfl) (by kernel_rfl) (by kernel_rfl) (e := add64Entry) (by kernel_rfl), run_add64 _ _ _ h1 h2 h3 h4]
    rfl
  · cases h
def bits_Sub64.f (x y b : Int) : Option (Int × Int) := if 0 ≤ x ∧ x < 18446744073709551616 ∧ 0 ≤ y ∧ y < 18446744073709551616 ∧ 0 ≤ b ∧ b ≤ 1 then some ((x - y - b) % 18446744073709551616, if x < y + b then 1 else 0) else none
theorem bits_Sub64.calls (a0 a1 a2 r1 r2 : Int) (w : World) (h : bits_Sub64.f a0 a1 a2 = some (r1, r2)) :
    XCalls Tryz.prog 50 #[.int .u64 a0, .int .u64 a1, .int .u64 a2] w fun e w' => e = .returned (.tuple #[.int .u64 r1, .int .u64 r2]) ∧ zAe w w' := by
  unfold bits_Sub64.f at h
  split at h
  · rename_i hh
    obtain ⟨h1, h1', h2, h2', h3, h4⟩ := hh
    have h_ := Option.some.inj h
    injection h_ with e1 e2
    subst e1; subst e2
    obtain ⟨x, rfl⟩ := Int.eq_ofNat_of_zero_le h1
    obtain ⟨y, rfl⟩ := Int.eq_ofNat_of_zero_le h2
    obtain ⟨b, rfl⟩ := Int.eq_ofNat_of_zero_le h3
    refine ⟨_, w, ?_, rfl, zAe.refl w⟩
    rw [run_callFunc_extern Tryz.func50 (by kernel_rfl) (by kernel_rfl) (by kernel_rfl) (e := sub64Entry) (by kernel_rfl), run_sub64 x y b (by omega)]
    simp only [Result.andThen]
    have q1 : (((x + 18446744073709551616 - y - b) % 18446744073709551616 : Nat) : Int) = ((x : Int) - y - b) % 18446744073709551616 := by omega
    have q2 : ((if x < y + b then 1 else 0 : Nat) : Int) = (if (x : Int) < (y : Int) + (b : Int) then 1 else 0 : Int) := by
      by_cases hc : x < y + b
      · rw [if_pos hc, if_pos (by omega)]; rfl
      · rw [if_neg hc, if_neg (by omega)]; rfl
    rw [q1, q2]
  · cases h
def bits_Mul64.f (x y : Int) : Option (Int × Int) := if 0 ≤ x ∧ x < 18446744073709551616 ∧ 0 ≤ y ∧ y < 18446744073709551616 then some (x * y / 18446744073709551616, x * y % 18446744073709551616) else none
theorem bits_Mul64.calls (a0 a1 r1 r2 : Int) (w : World) (h : bits_Mul64.f a0 a1 = some (r1, r2)) :
    Calls Tryz.prog 44 #[.int .u64 a0, .int .u64 a1] w fun e w' => e = .returned (.tuple #[.int .u64 r1, .int .u64 r2]) ∧ zAe w w' := by
  unfold bits_Mul64.f at h
  split at h
  · rename_i hh
    obtain ⟨h1, h1', h2, h2'⟩ := hh
    have h_ := Option.some.inj h
    injection h_ with e1 e2
    subst e1; subst e2
    obtain ⟨x, rfl⟩ := Int.eq_ofNat_of_zero_le h1
    obtain ⟨y, rfl⟩ := Int.eq_ofNat_of_zero_le h2
    refine (Tryz.bits_Mul64 x y (by omega) (by omega) w).mono fun e w' ⟨he, hw⟩ => ⟨?_, hw ▸ zAe.refl w⟩
    rw [he, Int.natCast_ediv, Int.natCast_emod, Int.natCast_mul]
    rfl
  · cases h
def strconv_FormatInt_24.f (n base : Int) : Option ByteArray := if base = 10 ∧ -9223372036854775808 ≤ n ∧ n ≤ 9223372036854775807 then some ⟨(Lib.itoa n).toArray⟩ else none
theorem below_grow (w : World) (k : Nat) (os : Array Obj) : Below w.heap.size w (Sort.grow (w.drewN k) os) := by
  refine ⟨rfl, rfl, rfl, ?_, ?_⟩
  · show w.heap.size ≤ (w.heap ++ os).size
    rw [Array.size_append]; omega
  · intro i hi
    show (w.heap ++ os)[i]? = w.heap[i]?
    rw [Array.getElem?_append_left hi]
theorem strconv_FormatInt_24.calls (a0 a1 : Int) (r : ByteArray) (w : World) (hG : GW w) (h : strconv_FormatInt_24.f a0 a1 = some r) :
    Calls Tryz.prog 24 #[.int .i64 a0, .int .i64 a1] w fun e w' => e = .returned (.string r) ∧ Below w.heap.size w w' := by
  unfold strconv_FormatInt_24.f at h
  split at h
  · rename_i hh
    obtain ⟨rfl, h1, h2⟩ := hh
    obtain rfl := Option.some.inj h
    exact (Tryz.strconv_FormatInt_10 a0 h1 h2 w hG.tab).mono fun e w' ⟨he, k, os, hw⟩ => ⟨he, hw ▸ below_grow w k os⟩
  · cases h
def strings_CutPrefix.f (s p : ByteArray) : Option (ByteArray × Bool) := some (⟨(Lib.trimPrefix s.data.toList p.data.toList).toArray⟩, Lib.hasPrefix s.data.toList p.data.toList)
theorem strings_CutPrefix.calls (a0 a1 r1 : ByteArray) (r2 : Bool) (w : World) (h : strings_CutPrefix.f a0 a1 = some (r1, r2)) :
    Calls Tryz.prog 33 #[.string a0, .string a1] w fun e w' => e = .returned (.tuple #[.string r1, .bool r2]) ∧ zAe w w' := by
  have h_ := Option.some.inj h
  injection h_ with e1 e2
  subst e1; subst e2
  exact (Tryz.strings_CutPrefix a0 a1 w).mono fun e w' ⟨he, hw⟩ => ⟨he, hw ▸ zAe.refl w⟩
def strings_Trim.f (s c : ByteArray) : Option ByteArray := if s.size ≤ 9223372036854775807 ∧ c.size < 4294967281 ∧ c.data.toList.all (fun b => decide (b.toNat < 128)) = true then some ⟨(Lib.trimS s.data.toList c.data.toList).toArray⟩ else none
theorem strings_Trim.calls (a0 a1 r : ByteArray) (w : World) (h : strings_Trim.f a0 a1 = some r) :
    Calls Tryz.prog 17 #[.string a0, .string a1] w fun e w' => e = .returned (.string r) ∧ Below w.heap.size w w' := by
  unfold strings_Trim.f at h
  split at h
  · rename_i hh
    obtain ⟨h1, h2, h3⟩ := hh
    obtain rfl := Option.some.inj h
    exact Any.strings_Trim_laid Tryz.lays160 (by kernel_rfl) a0 a1 w h1 h2 (ascii_of_all h3)
  · cases h
end Go.Proofs.YtkikekiokclmdaaGreatDoor.S

namespace Go.Proofs.YtkikekiokclmdaaGreatDoor.S
open Go.RowKit Go.Proofs.YtkikekiokclmdaaGreatDoorW.PrintWords Go.Proofs.YtkikekiokclmdaaGreatDoorW.PrintLast Go.Proofs.YtkikekiokclmdaaGreatDoorW.PrintMore
attribute [local go_sem] max2_int min2_int max_two min_two max_three min_three max_four min_four
def deci_plain.f (a0:ByteArray):Option (Bool):=if a0.toList=([]:List UInt8) then (some false) else ((strings_Trim.f a0 (⟨#[48,49,50,51,52,53,54,55,56,57]⟩:ByteArray)).bind fun t104=>(if t104.toList=([]:List UInt8) then (if 0<(a0.size:Int) then (if (bt a0 0)=48 then (some (a0.toList == ([48]:List UInt8))) else (some true)) else (none)) else (some false)))
set_option maxHeartbeats 8000000 in
set_option maxRecDepth 100000 in
theorem deci_plain.calls (a0:ByteArray) (r:Bool) (w:World) (h:deci_plain.f a0=some r) :
  Calls Tryz.prog 16 #[.string a0] w fun e w'=>e = .returned (.bool r)∧Below w.heap.size w w':=by
 have HB:=aK_ (Below.refl w.heap.size w)
 have H:(if a0.toList=([]:List UInt8) then (some false) else ((strings_Trim.f a0 (⟨#[48,49,50,51,52,53,54,55,56,57]⟩:ByteArray)).bind fun t104=>(if t104.toList=([]:List UInt8) then (if 0<(a0.size:Int) then (if (bt a0 0)=48 then (some (a0.toList == ([48]:List UInt8))) else (some true)) else (none)) else (some false))))=some r:=h
 clear h
 by_cases c2:a0.toList=([]:List UInt8)
 ·rw [if_pos c2] at H
  have c2b0:(a0.toList == ([]:List UInt8))=true:=beq_iff_eq.mpr c2
  have c2b1:(a0.toList != ([]:List UInt8))=false:=bne_eq_false_iff_eq.mpr c2
  clear c2
  obtain rfl:=Option.some.inj H
  go_enter Tryz.func16,Tryz.ntmps16
  go_wp2
  go_ret
  exact ⟨by first|rfl|(simp [zAP,zAQ] <;> rfl)|(simp [*,zAP,zAQ] <;> rfl),aH_ HB.out⟩
 rw [if_neg c2] at H
 have c2b0:(a0.toList == ([]:List UInt8))=false:=beq_eq_false_iff_ne.mpr c2
 have c2b1:(a0.toList != ([]:List UInt8))=true:=bne_iff_ne.mpr c2
 replace H:=Option.bind_eq_some_iff.mp H
 obtain ⟨t104,A30,H⟩:=H
 replace H:(if t104.toList=([]:List UInt8) then (if 0<(a0.size:Int) then (if (bt a0 0)=48 then (some (a0.toList == ([48]:List UInt8))) else (some true)) else (none)) else (some false))=some r:=H
 have A3:=aK_ A30
 clear A30
 by_cases c4:t104.toList=([]:List UInt8)
 rotate_left
 ·rw [if_neg c4] at H
  have c4b0:(t104.toList == ([]:List UInt8))=false:=beq_eq_false_iff_ne.mpr c4
  have c4b1:(t104.toList != ([]:List UInt8))=true:=bne_iff_ne.mpr c4
  obtain rfl:=Option.some.inj H
  go_enter Tryz.func16,Tryz.ntmps16
  go_wp2_with (first|(go_at_call 17;(with_reducible refine (strings_Trim.calls a0 (⟨#[48,49,50,51,52,53,54,55,56,57]⟩:ByteArray) t104 _ A3.out).mono ?_);rintro e w10 ⟨rfl,hb⟩;have n0_:=aK_ (zAE (aH_ HB.out) hb);clear HB;have HB:=n0_;clear n0_;(try clear hb);(try clear hb2);(try clear hk);(try clear hi)))
  go_ret
  exact ⟨by first|rfl|(simp [zAP,zAQ] <;> rfl)|(simp [*,zAP,zAQ] <;> rfl),aH_ HB.out⟩
 rw [if_pos c4] at H
 have c4b0:(t104.toList == ([]:List UInt8))=true:=beq_iff_eq.mpr c4
 have c4b1:(t104.toList != ([]:List UInt8))=false:=bne_eq_false_iff_eq.mpr c4
 clear c4
 have c5:=yes_ H
 rw [if_pos c5] at H
 have c5b0:decide (0<(a0.size:Int))=true:=decide_eq_true c5
 have c5b1:decide (0<a0.size)=true:=decide_eq_true (by omega)
 clear c5
 by_cases c7:(bt a0 0)=48
 rotate_left
 ·rw [if_neg c7] at H
  have c7b0:((bt a0 0) == 48)=false:=beq_eq_false_iff_ne.mpr c7
  have c7b1:((bt a0 0) != 48)=true:=bne_iff_ne.mpr c7
  obtain rfl:=Option.some.inj H
  go_enter Tryz.func16,Tryz.ntmps16
  go_wp2_with (first|(go_at_call 17;(with_reducible refine (strings_Trim.calls a0 (⟨#[48,49,50,51,52,53,54,55,56,57]⟩:ByteArray) t104 _ A3.out).mono ?_);rintro e w9 ⟨rfl,hb⟩;have n0_:=aK_ (zAE (aH_ HB.out) hb);clear HB;have HB:=n0_;clear n0_;(try clear hb);(try clear hb2);(try clear hk);(try clear hi);have p6:0≤(0:Int):=(by omega);have q6:0<a0.size:=(by have:(0:Int)<(a0.size:Int):=aD_;omega);have hx6:∀ h:0<a0.size,((a0[0]'h).toNat:Int)=bt a0 0:=bt_at a0 0;clear p6;have qi6:(0<(a0.size:Int))=True:=eq_true aD_;replace q6:=eq_true q6))
  go_ret
  exact ⟨by first|rfl|(simp [zAP,zAQ] <;> rfl)|(simp [*,zAP,zAQ] <;> rfl),aH_ HB.out⟩
 rw [if_pos c7] at H
 have c7b0:((bt a0 0) == 48)=true:=beq_iff_eq.mpr c7
 have c7b1:((bt a0 0) != 48)=false:=bne_eq_false_iff_eq.mpr c7
 clear c7
 obtain rfl:=Option.some.inj H
 go_enter Tryz.func16,Tryz.ntmps16
 go_wp2_with (first|(go_at_call 17;(with_reducible refine (strings_Trim.calls a0 (⟨#[48,49,50,51,52,53,54,55,56,57]⟩:ByteArray) t104 _ A3.out).mono ?_);rintro e w8 ⟨rfl,hb⟩;have n0_:=aK_ (zAE (aH_ HB.out) hb);clear HB;have HB:=n0_;clear n0_;(try clear hb);(try clear hb2);(try clear hk);(try clear hi);have p6:0≤(0:Int):=(by omega);have q6:0<a0.size:=(by have:(0:Int)<(a0.size:Int):=aD_;omega);have hx6:∀ h:0<a0.size,((a0[0]'h).toNat:Int)=bt a0 0:=bt_at a0 0;clear p6;have qi6:(0<(a0.size:Int))=True:=eq_true aD_;replace q6:=eq_true q6))
 go_ret
 exact ⟨by first|rfl|(simp [zAP,zAQ] <;> rfl)|(simp [*,zAP,zAQ] <;> rfl),aH_ HB.out⟩
end Go.Proofs.YtkikekiokclmdaaGreatDoor.S

namespace Go.Proofs.YtkikekiokclmdaaGreatDoor.S
open Go.RowKit Go.Proofs.YtkikekiokclmdaaGreatDoorW.PrintWords Go.Proofs.YtkikekiokclmdaaGreatDoorW.PrintLast Go.Proofs.YtkikekiokclmdaaGreatDoorW.PrintMore
attribute [local go_sem] max2_int min2_int max_two min_two max_three min_three max_four min_four
def deci_signed.f (a0:ByteArray):Option (ByteArray × Bool × Bool):=(strings_CutPrefix.f a0 (⟨#[45]⟩:ByteArray)).bind fun bt105=>((deci_plain.f bt105.1).bind fun t107=>(if t107=true then (some (bt105.1,bt105.2,(a0.toList != ([45,48]:List UInt8)))) else (some (bt105.1,bt105.2,false))))
set_option maxHeartbeats 8000000 in
set_option maxRecDepth 100000 in
theorem deci_signed.calls (a0:ByteArray) (r1:ByteArray) (r2:Bool) (r3:Bool) (w:World) (h:deci_signed.f a0=some (r1,r2,r3)) :
  Calls Tryz.prog 15 #[.string a0] w fun e w'=>e = .returned (.tuple #[.string r1,.bool r2,.bool r3])∧Below w.heap.size w w':=by
 have HB:=aK_ (Below.refl w.heap.size w)
 have H:((strings_CutPrefix.f a0 (⟨#[45]⟩:ByteArray)).bind fun bt105=>((deci_plain.f bt105.1).bind fun t107=>(if t107=true then (some (bt105.1,bt105.2,(a0.toList != ([45,48]:List UInt8)))) else (some (bt105.1,bt105.2,false)))))=some (r1,r2,r3):=h
 clear h
 replace H:=Option.bind_eq_some_iff.mp H
 obtain ⟨⟨t105,t106⟩,A20,H⟩:=H
 replace H:((deci_plain.f t105).bind fun t107=>(if t107=true then (some (t105,t106,(a0.toList != ([45,48]:List UInt8)))) else (some (t105,t106,false))))=some (r1,r2,r3):=H
 have A2:=aK_ A20
 clear A20
 replace H:=Option.bind_eq_some_iff.mp H
 obtain ⟨t107,A30,H⟩:=H
 replace H:(if t107=true then (some (t105,t106,(a0.toList != ([45,48]:List UInt8)))) else (some (t105,t106,false)))=some (r1,r2,r3):=H
 have A3:=aK_ A30
 clear A30
 by_cases c4:t107=true
 ·subst c4
  have H1:(some (t105,t106,(a0.toList != ([45,48]:List UInt8))))=some (r1,r2,r3):=by rw [if_pos rfl] at H;exact H
  clear H
  have H:=H1
  clear H1
  simp only [Option.some.injEq,Prod.mk.injEq] at H
  obtain ⟨rfl,rfl,rfl⟩:=H
  go_enter Tryz.func15,Tryz.ntmps15
  go_wp2_with (first|((with_reducible refine zAM (f:=33) rfl ?_);refine goesL_ (some 9) rfl rfl Tryz.func33 (by kernel_rfl) rfl #[.string a0,.string (⟨#[45]⟩:ByteArray)] rfl aM_ ?_;(with_reducible refine (strings_CutPrefix.calls a0 (⟨#[45]⟩:ByteArray) t105 t106 _ A2.out).mono ?_);rintro e w' ⟨rfl,⟨nd,rfl⟩⟩;refine ⟨_,rfl,?_⟩)|((with_reducible refine zAM (f:=16) rfl ?_);refine goesL_ (some 15) rfl rfl Tryz.func16 (by kernel_rfl) rfl #[.string t105] rfl aM_ ?_;(with_reducible refine (deci_plain.calls t105 true _ A3.out).mono ?_);rintro e w5 ⟨rfl,hb⟩;refine ⟨_,rfl,?_⟩;have n0_:=aK_ (zAE (aH_ HB.out) hb);clear HB;have HB:=n0_;clear n0_;(try clear hb);(try clear hb2);(try clear hk);(try clear hi)))
  go_ret3
  exact ⟨by first|rfl|(simp [zAP,zAQ] <;> rfl)|(simp [*,zAP,zAQ] <;> rfl),aH_ HB.out⟩
 replace c4:=Bool.eq_false_iff.mpr c4
 subst c4
 have H1:(some (t105,t106,false))=some (r1,r2,r3):=by rw [if_neg (show ¬ (false=true) by decide)] at H;exact H
 clear H
 have H:=H1
 clear H1
 simp only [Option.some.injEq,Prod.mk.injEq] at H
 obtain ⟨rfl,rfl,rfl⟩:=H
 go_enter Tryz.func15,Tryz.ntmps15
 go_wp2_with (first|((with_reducible refine zAM (f:=33) rfl ?_);refine goesL_ (some 9) rfl rfl Tryz.func33 (by kernel_rfl) rfl #[.string a0,.string (⟨#[45]⟩:ByteArray)] rfl aM_ ?_;(with_reducible refine (strings_CutPrefix.calls a0 (⟨#[45]⟩:ByteArray) t105 t106 _ A2.out).mono ?_);rintro e w' ⟨rfl,⟨nd,rfl⟩⟩;refine ⟨_,rfl,?_⟩)|((with_reducible refine zAM (f:=16) rfl ?_);refine goesL_ (some 15) rfl rfl Tryz.func16 (by kernel_rfl) rfl #[.string t105] rfl aM_ ?_;(with_reducible refine (deci_plain.calls t105 false _ A3.out).mono ?_);rintro e w6 ⟨rfl,hb⟩;refine ⟨_,rfl,?_⟩;have n0_:=aK_ (zAE (aH_ HB.out) hb);clear HB;have HB:=n0_;clear n0_;(try clear hb);(try clear hb2);(try clear hk);(try clear hi)))
 go_ret3
 exact ⟨by first|rfl|(simp [zAP,zAQ] <;> rfl)|(simp [*,zAP,zAQ] <;> rfl),aH_ HB.out⟩
end Go.Proofs.YtkikekiokclmdaaGreatDoor.S

namespace Go.Proofs.YtkikekiokclmdaaGreatDoor.S
open Go.RowKit Go.Proofs.YtkikekiokclmdaaGreatDoorW.PrintWords Go.Proofs.YtkikekiokclmdaaGreatDoorW.PrintLast Go.Proofs.YtkikekiokclmdaaGreatDoorW.PrintMore
attribute [local go_sem] max2_int min2_int max_two min_two max_three min_three max_four min_four
def wide_Sub.f (a0_0:Int) (a0_1:Int) (a1_0:Int) (a1_1:Int):Option (Int × Int × Int):=(bits_Sub64.f a0_1 a1_1 0).bind fun bt113=>((bits_Sub64.f (IntKind.u64.wrap (a0_0)) (IntKind.u64.wrap (a1_0)) bt113.2).bind fun bt115=>(if ((decide (a0_0<0)) != (decide (a1_0<0)))=true then (if ((decide ((wrap64 (bt115.1))<0)) != (decide (a0_0<0)))=true then (some (0,0,10)) else (some (wrap64 (bt115.1),bt113.1,0))) else (some (wrap64 (bt115.1),bt113.1,0))))
set_option maxHeartbeats 8000000 in
set_option maxRecDepth 100000 in
theorem wide_Sub.calls (a0_0:Int) (a0_1:Int) (a1_0:Int) (a1_1:Int) (r1:Int) (r2:Int) (r3:Int) (w:World) (h:wide_Sub.f a0_0 a0_1 a1_0 a1_1=some (r1,r2,r3)) :
  Calls Tryz.prog 43 #[.agg #[.int .i64 a0_0,.int .u64 a0_1],.agg #[.int .i64 a1_0,.int .u64 a1_1]] w fun e w'=>e = .returned (.tuple #[.agg #[.int .i64 r1,.int .u64 r2],.int .i64 r3])∧Below w.heap.size w w':=by
 have hu32:=Tryz.underlying32
 have HB:=aK_ (Below.refl w.heap.size w)
 have H:((bits_Sub64.f a0_1 a1_1 0).bind fun bt113=>((bits_Sub64.f (IntKind.u64.wrap (a0_0)) (IntKind.u64.wrap (a1_0)) bt113.2).bind fun bt115=>(if ((decide (a0_0<0)) != (decide (a1_0<0)))=true then (if ((decide ((wrap64 (bt115.1))<0)) != (decide (a0_0<0)))=true then (some (0,0,10)) else (some (wrap64 (bt115.1),bt113.1,0))) else (some (wrap64 (bt115.1),bt113.1,0)))))=some (r1,r2,r3):=h
 clear h
 replace H:=Option.bind_eq_some_iff.mp H
 obtain ⟨⟨t113,t114⟩,A30,H⟩:=H
 replace H:((bits_Sub64.f (IntKind.u64.wrap (a0_0)) (IntKind.u64.wrap (a1_0)) t114).bind fun bt115=>(if ((decide (a0_0<0)) != (decide (a1_0<0)))=true then (if ((decide ((wrap64 (bt115.1))<0)) != (decide (a0_0<0)))=true then (some (0,0,10)) else (some (wrap64 (bt115.1),t113,0))) else (some (wrap64 (bt115.1),t113,0))))=some (r1,r2,r3):=H
 have A3:=aK_ A30
 clear A30
 replace H:=Option.bind_eq_some_iff.mp H
 obtain ⟨⟨t115,t116⟩,A40,H⟩:=H
 replace H:(if ((decide (a0_0<0)) != (decide (a1_0<0)))=true then (if ((decide ((wrap64 (t115))<0)) != (decide (a0_0<0)))=true then (some (0,0,10)) else (some (wrap64 (t115),t113,0))) else (some (wrap64 (t115),t113,0)))=some (r1,r2,r3):=H
 have A4:=aK_ A40
 clear A40
 by_cases c5:((decide (a0_0<0)) != (decide (a1_0<0)))=true
 rotate_left
 ·rw [if_neg c5] at H
  have c5b0:((decide (a0_0<0)) != (decide (a1_0<0)))=false:=by simpa using c5
  (try (have c5b1:decide ((decide (a0_0<0))=(decide (a1_0<0)))=true:=by simpa using c5))
  (try (have c5b2:((decide (a0_0<0)) == (decide (a1_0<0)))=true:=by simpa using c5))
  clear c5
  simp only [Option.some.injEq,Prod.mk.injEq] at H
  obtain ⟨rfl,rfl,rfl⟩:=H
  go_enter Tryz.func43,Tryz.ntmps43
  go_wp2_with (first|((with_reducible refine zAc (N:=2) rfl ?_);refine zAX ?hg (N:=2) ?hd (cs:=#[.int .i64 a0_0,.int .u64 a0_1]) (t:=32) ?hr ?_;(case hd=>rfl);(case hg=>rfl);(case hr=>first|(go_simp;done)|(go_simp;rfl));intro gb110 hg w43 hbox hb;have n0_:=aK_ (zAE (aH_ HB.out) hb);have n1_:=aK_ (hbox);have n2_:=aK_ ((by rw [hg];exact (zAF (aH_ HB.out)):w.heap.size≤gb110));have n3_:=aK_ ((by rw [hg];exact (zAF (aH_ HB.out)):w.heap.size≤gb110));clear HB;have HB:=n0_;have BK110:=n1_;have GW110:=n2_;have GE110:=n3_;clear n0_ n1_ n2_ n3_;clear hb hbox hg)|((with_reducible refine zAc (N:=3) rfl ?_);refine zAX ?hg (N:=3) ?hd (cs:=#[.int .i64 a1_0,.int .u64 a1_1]) (t:=32) ?hr ?_;(case hd=>rfl);(case hg=>rfl);(case hr=>first|(go_simp;done)|(go_simp;rfl));intro gb111 hg w44 hbox hb;have n0_:=aK_ (zAC (g:=gb110) (o:=.cells #[.int .i64 a0_0,.int .u64 a0_1] 32 (0,0)) (aB_ BK110.out) hb);have n1_:=aK_ (zAE (aI_ HB.out GE110.out) hb);have n2_:=aK_ (hbox);have n3_:=aK_ ((by rw [hg];exact (zAF (aI_ HB.out GE110.out)):w.heap.size≤gb111));have n4_:=aK_ ((by rw [hg];exact (zAF (aI_ HB.out GE110.out)):w.heap.size≤gb111));have n5_:=aK_ ((by rw [hg];exact Nat.ne_of_lt (zAK (g:=gb110) (o:=.cells #[.int .i64 a0_0,.int .u64 a0_1] 32 (0,0)) (aB_ BK110.out)):gb110≠gb111));have n6_:=aK_ ((by rw [hg];exact Nat.ne_of_gt (zAK (g:=gb110) (o:=.cells #[.int .i64 a0_0,.int .u64 a0_1] 32 (0,0)) (aB_ BK110.out)):gb111≠gb110));clear BK110;clear HB;have BK110:=n0_;have HB:=n1_;have BK111:=n2_;have GW111:=n3_;have GE111:=n4_;have NB110_111:=n5_;have NB111_110:=n6_;clear n0_ n1_ n2_ n3_ n4_ n5_ n6_;clear hb hbox hg)|((with_reducible refine zAc (N:=4) rfl ?_);refine zAX ?hg (N:=4) ?hd (cs:=#[.int .i64 0,.int .u64 0]) (t:=32) ?hr ?_;(case hd=>rfl);(case hg=>rfl);(case hr=>first|(go_simp;done)|(go_simp;rfl));intro gb112 hg w45 hbox hb;have n0_:=aK_ (zAC (g:=gb110) (o:=.cells #[.int .i64 a0_0,.int .u64 a0_1] 32 (0,0)) (aB_ BK110.out) hb);have n1_:=aK_ (zAC (g:=gb111) (o:=.cells #[.int .i64 a1_0,.int .u64 a1_1] 32 (0,0)) (aB_ BK111.out) hb);have n2_:=aK_ (zAE (aJ_ HB.out GE110.out GE111.out) hb);have n3_:=aK_ (hbox);have n4_:=aK_ ((by rw [hg];exact (zAF (aJ_ HB.out GE110.out GE111.out)):w.heap.size≤gb112));have n5_:=aK_ ((by rw [hg];exact (zAF (aJ_ HB.out GE110.out GE111.out)):w.heap.size≤gb112));have n6_:=aK_ ((by rw [hg];exact Nat.ne_of_lt (zAK (g:=gb110) (o:=.cells #[.int .i64 a0_0,.int .u64 a0_1] 32 (0,0)) (aB_ BK110.out)):gb110≠gb112));have n7_:=aK_ ((by rw [hg];exact Nat.ne_of_gt (zAK (g:=gb110) (o:=.cells #[.int .i64 a0_0,.int .u64 a0_1] 32 (0,0)) (aB_ BK110.out)):gb112≠gb110));have n8_:=aK_ ((by rw [hg];exact Nat.ne_of_lt (zAK (g:=gb111) (o:=.cells #[.int .i64 a1_0,.int .u64 a1_1] 32 (0,0)) (aB_ BK111.out)):gb111≠gb112));have n9_:=aK_ ((by rw [hg];exact Nat.ne_of_gt (zAK (g:=gb111) (o:=.cells #[.int .i64 a1_0,.int .u64 a1_1] 32 (0,0)) (aB_ BK111.out)):gb112≠gb111));clear BK110;clear BK111;clear HB;have BK110:=n0_;have BK111:=n1_;have HB:=n2_;have BK112:=n3_;have GW112:=n4_;have GE112:=n5_;have NB110_112:=n6_;have NB112_110:=n7_;have NB111_112:=n8_;have NB112_111:=n9_;clear n0_ n1_ n2_ n3_ n4_ n5_ n6_ n7_ n8_ n9_;clear hb hbox hg;have hnb46:=NB110_111.out;have hnc46:=NB111_110.out;have hnb47:=NB110_112.out;have hnc47:=NB112_110.out;have hcz48_0:w45.cell? ⟨gb110,0,none⟩=some (.int .i64 a0_0):=(zAB BK110.out 0).trans rfl;have hcz48_1:w45.cell? ⟨gb110,1,none⟩=some (.int .u64 a0_1):=(zAB BK110.out 1).trans rfl;have hfz48_0:=zAA BK110.out 0;have hfz48_1:=zAA BK110.out 1;have hnb49:=NB111_112.out;have hnc49:=NB112_111.out;have hcz50_0:w45.cell? ⟨gb111,0,none⟩=some (.int .i64 a1_0):=(zAB BK111.out 0).trans rfl;have hcz50_1:w45.cell? ⟨gb111,1,none⟩=some (.int .u64 a1_1):=(zAB BK111.out 1).trans rfl;have hfz50_0:=zAA BK111.out 0;have hfz50_1:=zAA BK111.out 1)|((with_reducible refine zAM (f:=50) rfl ?_);refine goesX_ (some 16) rfl rfl Tryz.func50 (by kernel_rfl) rfl #[.int .u64 a0_1,.int .u64 a1_1,.int .u64 0] rfl aM_ ?_;(with_reducible refine (bits_Sub64.calls a0_1 a1_1 0 t113 t114 _ A3.out).mono ?_);rintro e w' ⟨rfl,⟨nd,rfl⟩⟩;refine ⟨_,rfl,?_⟩;(try (rw [drewN_self w45];generalize hq_:World.drewN w45 _=w45;have n0_:zAG (w45.heap[gb110]?=some (.cells #[.int .i64 a0_0,.int .u64 a0_1] 32 (0,0))):=⟨by rw [← hq_];exact (aB_ BK110.out)⟩;have n1_:zAG (w45.heap[gb111]?=some (.cells #[.int .i64 a1_0,.int .u64 a1_1] 32 (0,0))):=⟨by rw [← hq_];exact (aB_ BK111.out)⟩;have n2_:zAG (w45.heap[gb112]?=some (.cells #[.int .i64 0,.int .u64 0] 32 (0,0))):=⟨by rw [← hq_];exact (aB_ BK112.out)⟩;have n3_:zAG (Below w.heap.size w w45):=⟨by rw [← hq_];exact (aQ_ HB.out GE110.out GE111.out GE112.out)⟩;clear BK110 BK111 BK112 HB hq_;have BK110:=n0_;have BK111:=n1_;have BK112:=n2_;have HB:=n3_;clear n0_ n1_ n2_ n3_));have hcz51_0:w45.cell? ⟨gb110,0,none⟩=some (.int .i64 a0_0):=(zAB BK110.out 0).trans rfl;have hcz51_1:w45.cell? ⟨gb110,1,none⟩=some (.int .u64 a0_1):=(zAB BK110.out 1).trans rfl;have hfz51_0:=zAA BK110.out 0;have hfz51_1:=zAA BK110.out 1;have hcz52_0:w45.cell? ⟨gb111,0,none⟩=some (.int .i64 a1_0):=(zAB BK111.out 0).trans rfl;have hcz52_1:w45.cell? ⟨gb111,1,none⟩=some (.int .u64 a1_1):=(zAB BK111.out 1).trans rfl;have hfz52_0:=zAA BK111.out 0;have hfz52_1:=zAA BK111.out 1)|((with_reducible refine zAM (f:=50) rfl ?_);refine goesX_ (some 27) rfl rfl Tryz.func50 (by kernel_rfl) rfl #[.int .u64 (IntKind.u64.wrap (a0_0)),.int .u64 (IntKind.u64.wrap (a1_0)),.int .u64 t114] rfl aM_ ?_;(with_reducible refine (bits_Sub64.calls (IntKind.u64.wrap (a0_0)) (IntKind.u64.wrap (a1_0)) t114 t115 t116 _ A4.out).mono ?_);rintro e w' ⟨rfl,⟨nd,rfl⟩⟩;refine ⟨_,rfl,?_⟩;(try (rw [drewN_self w45];generalize hq_:World.drewN w45 _=w45;have n0_:zAG (w45.heap[gb110]?=some (.cells #[.int .i64 a0_0,.int .u64 a0_1] 32 (0,0))):=⟨by rw [← hq_];exact (aB_ BK110.out)⟩;have n1_:zAG (w45.heap[gb111]?=some (.cells #[.int .i64 a1_0,.int .u64 a1_1] 32 (0,0))):=⟨by rw [← hq_];exact (aB_ BK111.out)⟩;have n2_:zAG (w45.heap[gb112]?=some (.cells #[.int .i64 0,.int .u64 0] 32 (0,0))):=⟨by rw [← hq_];exact (aB_ BK112.out)⟩;have n3_:zAG (Below w.heap.size w w45):=⟨by rw [← hq_];exact (aQ_ HB.out GE110.out GE111.out GE112.out)⟩;clear BK110 BK111 BK112 HB hq_;have BK110:=n0_;have BK111:=n1_;have BK112:=n2_;have HB:=n3_;clear n0_ n1_ n2_ n3_)))|((with_reducible refine zAc (N:=10) rfl ?_);refine zAX ?hg (N:=10) ?hd (cs:=#[.int .i64 0,.int .u64 0]) (t:=32) ?hr ?_;(case hd=>rfl);(case hg=>rfl);(case hr=>first|(go_simp;done)|(go_simp;rfl));intro gb117 hg w53 hbox hb;have n0_:=aK_ (zAC (g:=gb110) (o:=.cells #[.int .i64 a0_0,.int .u64 a0_1] 32 (0,0)) (aB_ BK110.out) hb);have n1_:=aK_ (zAC (g:=gb111) (o:=.cells #[.int .i64 a1_0,.int .u64 a1_1] 32 (0,0)) (aB_ BK111.out) hb);have n2_:=aK_ (zAC (g:=gb112) (o:=.cells #[.int .i64 0,.int .u64 0] 32 (0,0)) (aB_ BK112.out) hb);have n3_:=aK_ (zAE (aQ_ HB.out GE110.out GE111.out GE112.out) hb);have n4_:=aK_ (hbox);have n5_:=aK_ ((by rw [hg];exact (zAF (aQ_ HB.out GE110.out GE111.out GE112.out)):w.heap.size≤gb117));have n6_:=aK_ ((by rw [hg];exact (zAF (aQ_ HB.out GE110.out GE111.out GE112.out)):w.heap.size≤gb117));have n7_:=aK_ ((by rw [hg];exact Nat.ne_of_lt (zAK (g:=gb110) (o:=.cells #[.int .i64 a0_0,.int .u64 a0_1] 32 (0,0)) (aB_ BK110.out)):gb110≠gb117));have n8_:=aK_ ((by rw [hg];exact Nat.ne_of_gt (zAK (g:=gb110) (o:=.cells #[.int .i64 a0_0,.int .u64 a0_1] 32 (0,0)) (aB_ BK110.out)):gb117≠gb110));have n9_:=aK_ ((by rw [hg];exact Nat.ne_of_lt (zAK (g:=gb111) (o:=.cells #[.int .i64 a1_0,.int .u64 a1_1] 32 (0,0)) (aB_ BK111.out)):gb111≠gb117));have n10_:=aK_ ((by rw [hg];exact Nat.ne_of_gt (zAK (g:=gb111) (o:=.cells #[.int .i64 a1_0,.int .u64 a1_1] 32 (0,0)) (aB_ BK111.out)):gb117≠gb111));have n11_:=aK_ ((by rw [hg];exact Nat.ne_of_lt (zAK (g:=gb112) (o:=.cells #[.int .i64 0,.int .u64 0] 32 (0,0)) (aB_ BK112.out)):gb112≠gb117));have n12_:=aK_ ((by rw [hg];exact Nat.ne_of_gt (zAK (g:=gb112) (o:=.cells #[.int .i64 0,.int .u64 0] 32 (0,0)) (aB_ BK112.out)):gb117≠gb112));clear BK110;clear BK111;clear BK112;clear HB;have BK110:=n0_;have BK111:=n1_;have BK112:=n2_;have HB:=n3_;have BK117:=n4_;have GW117:=n5_;have GE117:=n6_;have NB110_117:=n7_;have NB117_110:=n8_;have NB111_117:=n9_;have NB117_111:=n10_;have NB112_117:=n11_;have NB117_112:=n12_;clear n0_ n1_ n2_ n3_ n4_ n5_ n6_ n7_ n8_ n9_ n10_ n11_ n12_;clear hb hbox hg;have hnb54:=NB117_110.out;have hnc54:=NB110_117.out;have hnb55:=NB117_111.out;have hnc55:=NB111_117.out;have hnb56:=NB117_112.out;have hnc56:=NB112_117.out;have hcz57_0:w53.cell? ⟨gb117,0,none⟩=some (.int .i64 0):=(zAB BK117.out 0).trans rfl;have hcz57_1:w53.cell? ⟨gb117,1,none⟩=some (.int .u64 0):=(zAB BK117.out 1).trans rfl;have hfz57_0:=zAA BK117.out 0;have hfz57_1:=zAA BK117.out 1;have hcz58_0:w53.cell? ⟨gb110,0,none⟩=some (.int .i64 a0_0):=(zAB BK110.out 0).trans rfl;have hcz58_1:w53.cell? ⟨gb110,1,none⟩=some (.int .u64 a0_1):=(zAB BK110.out 1).trans rfl;have hfz58_0:=zAA BK110.out 0;have hfz58_1:=zAA BK110.out 1;have hcz59_0:w53.cell? ⟨gb111,0,none⟩=some (.int .i64 a1_0):=(zAB BK111.out 0).trans rfl;have hcz59_1:w53.cell? ⟨gb111,1,none⟩=some (.int .u64 a1_1):=(zAB BK111.out 1).trans rfl;have hfz59_0:=zAA BK111.out 0;have hfz59_1:=zAA BK111.out 1;have hcz60_0:w53.cell? ⟨gb112,0,none⟩=some (.int .i64 0):=(zAB BK112.out 0).trans rfl;have hcz60_1:w53.cell? ⟨gb112,1,none⟩=some (.int .u64 0):=(zAB BK112.out 1).trans rfl;have hfz60_0:=zAA BK112.out 0;have hfz60_1:=zAA BK112.out 1))
  refine bodyPost_ret (results_ct rfl _ _ gb112 32 #[.int .i64 (wrap64 (t115)),.int .u64 t113] (0,0) _ rfl (by refine aB_ ?_;refine zAW (cs:=#[.int .i64 (wrap64 (t115)),.int .u64 0]) ?_ 1 _ rfl;refine aB_ ?_;refine zAW (cs:=#[.int .i64 0,.int .u64 0]) ?_ 0 _ rfl;refine aB_ ?_;refine zAT ?_ NB112_117.out _;refine aB_ ?_;refine zAT ?_ NB112_117.out _;refine aB_ ?_;exact BK112.out) Tryz.underlying32 rfl (by kernel_rfl)) rfl ?_
  exact ⟨by first|rfl|(simp [zAP,zAQ] <;> rfl)|(simp [*,zAP,zAQ] <;> rfl),aU_ HB.out GE110.out GE111.out GE112.out GE117.out⟩
 rw [if_pos c5] at H
 have c5b0:((decide (a0_0<0)) != (decide (a1_0<0)))=true:=c5
 (try (have c5b1:decide ((decide (a0_0<0))=(decide (a1_0<0)))=false:=by simpa using c5))
 (try (have c5b2:((decide (a0_0<0)) == (decide (a1_0<0)))=false:=by simpa using c5))
 (try (have c5b3 : ¬ ((decide (a0_0<0))=(decide (a1_0<0))):=by simpa using c5))
 clear c5
 by_cases c6:((decide ((wrap64 (t115))<0)) != (decide (a0_0<0)))=true
 rotate_left
 ·rw [if_neg c6] at H
  have c6b0:((decide ((wrap64 (t115))<0)) != (decide (a0_0<0)))=false:=by simpa using c6
  (try (have c6b1:decide ((decide ((wrap64 (t115))<0))=(decide (a0_0<0)))=true:=by simpa using c6))
  (try (have c6b2:((decide ((wrap64 (t115))<0)) == (decide (a0_0<0)))=true:=by simpa using c6))
  clear c6
  simp only [Option.some.injEq,Prod.mk.injEq] at H
  obtain ⟨rfl,rfl,rfl⟩:=H
  go_enter Tryz.func43,Tryz.ntmps43
  go_wp2_with (first|((with_reducible refine zAc (N:=2) rfl ?_);refine zAX ?hg (N:=2) ?hd (cs:=#[.int .i64 a0_0,.int .u64 a0_1]) (t:=32) ?hr ?_;(case hd=>rfl);(case hg=>rfl);(case hr=>first|(go_simp;done)|(go_simp;rfl));intro gb110 hg w25 hbox hb;have n0_:=aK_ (zAE (aH_ HB.out) hb);have n1_:=aK_ (hbox);have n2_:=aK_ ((by rw [hg];exact (zAF (aH_ HB.out)):w.heap.size≤gb110));have n3_:=aK_ ((by rw [hg];exact (zAF (aH_ HB.out)):w.heap.size≤gb110));clear HB;have HB:=n0_;have BK110:=n1_;have GW110:=n2_;have GE110:=n3_;clear n0_ n1_ n2_ n3_;clear hb hbox hg)|((with_reducible refine zAc (N:=3) rfl ?_);refine zAX ?hg (N:=3) ?hd (cs:=#[.int .i64 a1_0,.int .u64 a1_1]) (t:=32) ?hr ?_;(case hd=>rfl);(case hg=>rfl);(case hr=>first|(go_simp;done)|(go_simp;rfl));intro gb111 hg w26 hbox hb;have n0_:=aK_ (zAC (g:=gb110) (o:=.cells #[.int .i64 a0_0,.int .u64 a0_1] 32 (0,0)) (aB_ BK110.out) hb);have n1_:=aK_ (zAE (aI_ HB.out GE110.out) hb);have n2_:=aK_ (hbox);have n3_:=aK_ ((by rw [hg];exact (zAF (aI_ HB.out GE110.out)):w.heap.size≤gb111));have n4_:=aK_ ((by rw [hg];exact (zAF (aI_ HB.out GE110.out)):w.heap.size≤gb111));have n5_:=aK_ ((by rw [hg];exact Nat.ne_of_lt (zAK (g:=gb110) (o:=.cells #[.int .i64 a0_0,.int .u64 a0_1] 32 (0,0)) (aB_ BK110.out)):gb110≠gb111));have n6_:=aK_ ((by rw [hg];exact Nat.ne_of_gt (zAK (g:=gb110) (o:=.cells #[.int .i64 a0_0,.int .u64 a0_1] 32 (0,0)) (aB_ BK110.out)):gb111≠gb110));clear BK110;clear HB;have BK110:=n0_;have HB:=n1_;have BK111:=n2_;have GW111:=n3_;have GE111:=n4_;have NB110_111:=n5_;have NB111_110:=n6_;clear n0_ n1_ n2_ n3_ n4_ n5_ n6_;clear hb hbox hg)|((with_reducible refine zAc (N:=4) rfl ?_);refine zAX ?hg (N:=4) ?hd (cs:=#[.int .i64 0,.int .u64 0]) (t:=32) ?hr ?_;(case hd=>rfl);(case hg=>rfl);(case hr=>first|(go_simp;done)|(go_simp;rfl));intro gb112 hg w27 hbox hb;have n0_:=aK_ (zAC (g:=gb110) (o:=.cells #[.int .i64 a0_0,.int .u64 a0_1] 32 (0,0)) (aB_ BK110.out) hb);have n1_:=aK_ (zAC (g:=gb111) (o:=.cells #[.int .i64 a1_0,.int .u64 a1_1] 32 (0,0)) (aB_ BK111.out) hb);have n2_:=aK_ (zAE (aJ_ HB.out GE110.out GE111.out) hb);have n3_:=aK_ (hbox);have n4_:=aK_ ((by rw [hg];exact (zAF (aJ_ HB.out GE110.out GE111.out)):w.heap.size≤gb112));have n5_:=aK_ ((by rw [hg];exact (zAF (aJ_ HB.out GE110.out GE111.out)):w.heap.size≤gb112));have n6_:=aK_ ((by rw [hg];exact Nat.ne_of_lt (zAK (g:=gb110) (o:=.cells #[.int .i64 a0_0,.int .u64 a0_1] 32 (0,0)) (aB_ BK110.out)):gb110≠gb112));have n7_:=aK_ ((by rw [hg];exact Nat.ne_of_gt (zAK (g:=gb110) (o:=.cells #[.int .i64 a0_0,.int .u64 a0_1] 32 (0,0)) (aB_ BK110.out)):gb112≠gb110));have n8_:=aK_ ((by rw [hg];exact Nat.ne_of_lt (zAK (g:=gb111) (o:=.cells #[.int .i64 a1_0,.int .u64 a1_1] 32 (0,0)) (aB_ BK111.out)):gb111≠gb112));have n9_:=aK_ ((by rw [hg];exact Nat.ne_of_gt (zAK (g:=gb111) (o:=.cells #[.int .i64 a1_0,.int .u64 a1_1] 32 (0,0)) (aB_ BK111.out)):gb112≠gb111));clear BK110;clear BK111;clear HB;have BK110:=n0_;have BK111:=n1_;have HB:=n2_;have BK112:=n3_;have GW112:=n4_;have GE112:=n5_;have NB110_112:=n6_;have NB112_110:=n7_;have NB111_112:=n8_;have NB112_111:=n9_;clear n0_ n1_ n2_ n3_ n4_ n5_ n6_ n7_ n8_ n9_;clear hb hbox hg;have hnb28:=NB110_111.out;have hnc28:=NB111_110.out;have hnb29:=NB110_112.out;have hnc29:=NB112_110.out;have hcz30_0:w27.cell? ⟨gb110,0,none⟩=some (.int .i64 a0_0):=(zAB BK110.out 0).trans rfl;have hcz30_1:w27.cell? ⟨gb110,1,none⟩=some (.int .u64 a0_1):=(zAB BK110.out 1).trans rfl;have hfz30_0:=zAA BK110.out 0;have hfz30_1:=zAA BK110.out 1;have hnb31:=NB111_112.out;have hnc31:=NB112_111.out;have hcz32_0:w27.cell? ⟨gb111,0,none⟩=some (.int .i64 a1_0):=(zAB BK111.out 0).trans rfl;have hcz32_1:w27.cell? ⟨gb111,1,none⟩=some (.int .u64 a1_1):=(zAB BK111.out 1).trans rfl;have hfz32_0:=zAA BK111.out 0;have hfz32_1:=zAA BK111.out 1)|((with_reducible refine zAM (f:=50) rfl ?_);refine goesX_ (some 16) rfl rfl Tryz.func50 (by kernel_rfl) rfl #[.int .u64 a0_1,.int .u64 a1_1,.int .u64 0] rfl aM_ ?_;(with_reducible refine (bits_Sub64.calls a0_1 a1_1 0 t113 t114 _ A3.out).mono ?_);rintro e w' ⟨rfl,⟨nd,rfl⟩⟩;refine ⟨_,rfl,?_⟩;(try (rw [drewN_self w27];generalize hq_:World.drewN w27 _=w27;have n0_:zAG (w27.heap[gb110]?=some (.cells #[.int .i64 a0_0,.int .u64 a0_1] 32 (0,0))):=⟨by rw [← hq_];exact (aB_ BK110.out)⟩;have n1_:zAG (w27.heap[gb111]?=some (.cells #[.int .i64 a1_0,.int .u64 a1_1] 32 (0,0))):=⟨by rw [← hq_];exact (aB_ BK111.out)⟩;have n2_:zAG (w27.heap[gb112]?=some (.cells #[.int .i64 0,.int .u64 0] 32 (0,0))):=⟨by rw [← hq_];exact (aB_ BK112.out)⟩;have n3_:zAG (Below w.heap.size w w27):=⟨by rw [← hq_];exact (aQ_ HB.out GE110.out GE111.out GE112.out)⟩;clear BK110 BK111 BK112 HB hq_;have BK110:=n0_;have BK111:=n1_;have BK112:=n2_;have HB:=n3_;clear n0_ n1_ n2_ n3_));have hcz33_0:w27.cell? ⟨gb110,0,none⟩=some (.int .i64 a0_0):=(zAB BK110.out 0).trans rfl;have hcz33_1:w27.cell? ⟨gb110,1,none⟩=some (.int .u64 a0_1):=(zAB BK110.out 1).trans rfl;have hfz33_0:=zAA BK110.out 0;have hfz33_1:=zAA BK110.out 1;have hcz34_0:w27.cell? ⟨gb111,0,none⟩=some (.int .i64 a1_0):=(zAB BK111.out 0).trans rfl;have hcz34_1:w27.cell? ⟨gb111,1,none⟩=some (.int .u64 a1_1):=(zAB BK111.out 1).trans rfl;have hfz34_0:=zAA BK111.out 0;have hfz34_1:=zAA BK111.out 1)|((with_reducible refine zAM (f:=50) rfl ?_);refine goesX_ (some 27) rfl rfl Tryz.func50 (by kernel_rfl) rfl #[.int .u64 (IntKind.u64.wrap (a0_0)),.int .u64 (IntKind.u64.wrap (a1_0)),.int .u64 t114] rfl aM_ ?_;(with_reducible refine (bits_Sub64.calls (IntKind.u64.wrap (a0_0)) (IntKind.u64.wrap (a1_0)) t114 t115 t116 _ A4.out).mono ?_);rintro e w' ⟨rfl,⟨nd,rfl⟩⟩;refine ⟨_,rfl,?_⟩;(try (rw [drewN_self w27];generalize hq_:World.drewN w27 _=w27;have n0_:zAG (w27.heap[gb110]?=some (.cells #[.int .i64 a0_0,.int .u64 a0_1] 32 (0,0))):=⟨by rw [← hq_];exact (aB_ BK110.out)⟩;have n1_:zAG (w27.heap[gb111]?=some (.cells #[.int .i64 a1_0,.int .u64 a1_1] 32 (0,0))):=⟨by rw [← hq_];exact (aB_ BK111.out)⟩;have n2_:zAG (w27.heap[gb112]?=some (.cells #[.int .i64 0,.int .u64 0] 32 (0,0))):=⟨by rw [← hq_];exact (aB_ BK112.out)⟩;have n3_:zAG (Below w.heap.size w w27):=⟨by rw [← hq_];exact (aQ_ HB.out GE110.out GE111.out GE112.out)⟩;clear BK110 BK111 BK112 HB hq_;have BK110:=n0_;have BK111:=n1_;have BK112:=n2_;have HB:=n3_;clear n0_ n1_ n2_ n3_)))|((with_reducible refine zAc (N:=10) rfl ?_);refine zAX ?hg (N:=10) ?hd (cs:=#[.int .i64 0,.int .u64 0]) (t:=32) ?hr ?_;(case hd=>rfl);(case hg=>rfl);(case hr=>first|(go_simp;done)|(go_simp;rfl));intro gb117 hg w35 hbox hb;have n0_:=aK_ (zAC (g:=gb110) (o:=.cells #[.int .i64 a0_0,.int .u64 a0_1] 32 (0,0)) (aB_ BK110.out) hb);have n1_:=aK_ (zAC (g:=gb111) (o:=.cells #[.int .i64 a1_0,.int .u64 a1_1] 32 (0,0)) (aB_ BK111.out) hb);have n2_:=aK_ (zAC (g:=gb112) (o:=.cells #[.int .i64 0,.int .u64 0] 32 (0,0)) (aB_ BK112.out) hb);have n3_:=aK_ (zAE (aQ_ HB.out GE110.out GE111.out GE112.out) hb);have n4_:=aK_ (hbox);have n5_:=aK_ ((by rw [hg];exact (zAF (aQ_ HB.out GE110.out GE111.out GE112.out)):w.heap.size≤gb117));have n6_:=aK_ ((by rw [hg];exact (zAF (aQ_ HB.out GE110.out GE111.out GE112.out)):w.heap.size≤gb117));have n7_:=aK_ ((by rw [hg];exact Nat.ne_of_lt (zAK (g:=gb110) (o:=.cells #[.int .i64 a0_0,.int .u64 a0_1] 32 (0,0)) (aB_ BK110.out)):gb110≠gb117));have n8_:=aK_ ((by rw [hg];exact Nat.ne_of_gt (zAK (g:=gb110) (o:=.cells #[.int .i64 a0_0,.int .u64 a0_1] 32 (0,0)) (aB_ BK110.out)):gb117≠gb110));have n9_:=aK_ ((by rw [hg];exact Nat.ne_of_lt (zAK (g:=gb111) (o:=.cells #[.int .i64 a1_0,.int .u64 a1_1] 32 (0,0)) (aB_ BK111.out)):gb111≠gb117));have n10_:=aK_ ((by rw [hg];exact Nat.ne_of_gt (zAK (g:=gb111) (o:=.cells #[.int .i64 a1_0,.int .u64 a1_1] 32 (0,0)) (aB_ BK111.out)):gb117≠gb111));have n11_:=aK_ ((by rw [hg];exact Nat.ne_of_lt (zAK (g:=gb112) (o:=.cells #[.int .i64 0,.int .u64 0] 32 (0,0)) (aB_ BK112.out)):gb112≠gb117));have n12_:=aK_ ((by rw [hg];exact Nat.ne_of_gt (zAK (g:=gb112) (o:=.cells #[.int .i64 0,.int .u64 0] 32 (0,0)) (aB_ BK112.out)):gb117≠gb112));clear BK110;clear BK111;clear BK112;clear HB;have BK110:=n0_;have BK111:=n1_;have BK112:=n2_;have HB:=n3_;have BK117:=n4_;have GW117:=n5_;have GE117:=n6_;have NB110_117:=n7_;have NB117_110:=n8_;have NB111_117:=n9_;have NB117_111:=n10_;have NB112_117:=n11_;have NB117_112:=n12_;clear n0_ n1_ n2_ n3_ n4_ n5_ n6_ n7_ n8_ n9_ n10_ n11_ n12_;clear hb hbox hg;have hnb36:=NB117_110.out;have hnc36:=NB110_117.out;have hnb37:=NB117_111.out;have hnc37:=NB111_117.out;have hnb38:=NB117_112.out;have hnc38:=NB112_117.out;have hcz39_0:w35.cell? ⟨gb117,0,none⟩=some (.int .i64 0):=(zAB BK117.out 0).trans rfl;have hcz39_1:w35.cell? ⟨gb117,1,none⟩=some (.int .u64 0):=(zAB BK117.out 1).trans rfl;have hfz39_0:=zAA BK117.out 0;have hfz39_1:=zAA BK117.out 1;have hcz40_0:w35.cell? ⟨gb110,0,none⟩=some (.int .i64 a0_0):=(zAB BK110.out 0).trans rfl;have hcz40_1:w35.cell? ⟨gb110,1,none⟩=some (.int .u64 a0_1):=(zAB BK110.out 1).trans rfl;have hfz40_0:=zAA BK110.out 0;have hfz40_1:=zAA BK110.out 1;have hcz41_0:w35.cell? ⟨gb111,0,none⟩=some (.int .i64 a1_0):=(zAB BK111.out 0).trans rfl;have hcz41_1:w35.cell? ⟨gb111,1,none⟩=some (.int .u64 a1_1):=(zAB BK111.out 1).trans rfl;have hfz41_0:=zAA BK111.out 0;have hfz41_1:=zAA BK111.out 1;have hcz42_0:w35.cell? ⟨gb112,0,none⟩=some (.int .i64 0):=(zAB BK112.out 0).trans rfl;have hcz42_1:w35.cell? ⟨gb112,1,none⟩=some (.int .u64 0):=(zAB BK112.out 1).trans rfl;have hfz42_0:=zAA BK112.out 0;have hfz42_1:=zAA BK112.out 1))
  refine bodyPost_ret (results_ct rfl _ _ gb112 32 #[.int .i64 (wrap64 (t115)),.int .u64 t113] (0,0) _ rfl (by refine aB_ ?_;refine zAW (cs:=#[.int .i64 (wrap64 (t115)),.int .u64 0]) ?_ 1 _ rfl;refine aB_ ?_;refine zAW (cs:=#[.int .i64 0,.int .u64 0]) ?_ 0 _ rfl;refine aB_ ?_;refine zAT ?_ NB112_117.out _;refine aB_ ?_;refine zAT ?_ NB112_117.out _;refine aB_ ?_;exact BK112.out) Tryz.underlying32 rfl (by kernel_rfl)) rfl ?_
  exact ⟨by first|rfl|(simp [zAP,zAQ] <;> rfl)|(simp [*,zAP,zAQ] <;> rfl),aU_ HB.out GE110.out GE111.out GE112.out GE117.out⟩
 rw [if_pos c6] at H
 have c6b0:((decide ((wrap64 (t115))<0)) != (decide (a0_0<0)))=true:=c6
 (try (have c6b1:decide ((decide ((wrap64 (t115))<0))=(decide (a0_0<0)))=false:=by simpa using c6))
 (try (have c6b2:((decide ((wrap64 (t115))<0)) == (decide (a0_0<0)))=false:=by simpa using c6))
 (try (have c6b3 : ¬ ((decide ((wrap64 (t115))<0))=(decide (a0_0<0))):=by simpa using c6))
 clear c6
 simp only [Option.some.injEq,Prod.mk.injEq] at H
 obtain ⟨rfl,rfl,rfl⟩:=H
 go_enter Tryz.func43,Tryz.ntmps43
 go_wp2_with (first|((with_reducible refine zAc (N:=2) rfl ?_);refine zAX ?hg (N:=2) ?hd (cs:=#[.int .i64 a0_0,.int .u64 a0_1]) (t:=32) ?hr ?_;(case hd=>rfl);(case hg=>rfl);(case hr=>first|(go_simp;done)|(go_simp;rfl));intro gb110 hg w7 hbox hb;have n0_:=aK_ (zAE (aH_ HB.out) hb);have n1_:=aK_ (hbox);have n2_:=aK_ ((by rw [hg];exact (zAF (aH_ HB.out)):w.heap.size≤gb110));have n3_:=aK_ ((by rw [hg];exact (zAF (aH_ HB.out)):w.heap.size≤gb110));clear HB;have HB:=n0_;have BK110:=n1_;have GW110:=n2_;have GE110:=n3_;clear n0_ n1_ n2_ n3_;clear hb hbox hg)|((with_reducible refine zAc (N:=3) rfl ?_);refine zAX ?hg (N:=3) ?hd (cs:=#[.int .i64 a1_0,.int .u64 a1_1]) (t:=32) ?hr ?_;(case hd=>rfl);(case hg=>rfl);(case hr=>first|(go_simp;done)|(go_simp;rfl));intro gb111 hg w8 hbox hb;have n0_:=aK_ (zAC (g:=gb110) (o:=.cells #[.int .i64 a0_0,.int .u64 a0_1] 32 (0,0)) (aB_ BK110.out) hb);have n1_:=aK_ (zAE (aI_ HB.out GE110.out) hb);have n2_:=aK_ (hbox);have n3_:=aK_ ((by rw [hg];exact (zAF (aI_ HB.out GE110.out)):w.heap.size≤gb111));have n4_:=aK_ ((by rw [hg];exact (zAF (aI_ HB.out GE110.out)):w.heap.size≤gb111));have n5_:=aK_ ((by rw [hg];exact Nat.ne_of_lt (zAK (g:=gb110) (o:=.cells #[.int .i64 a0_0,.int .u64 a0_1] 32 (0,0)) (aB_ BK110.out)):gb110≠gb111));have n6_:=aK_ ((by rw [hg];exact Nat.ne_of_gt (zAK (g:=gb110) (o:=.cells #[.int .i64 a0_0,.int .u64 a0_1] 32 (0,0)) (aB_ BK110.out)):gb111≠gb110));clear BK110;clear HB;have BK110:=n0_;have HB:=n1_;have BK111:=n2_;have GW111:=n3_;have GE111:=n4_;have NB110_111:=n5_;have NB111_110:=n6_;clear n0_ n1_ n2_ n3_ n4_ n5_ n6_;clear hb hbox hg)|((with_reducible refine zAc (N:=4) rfl ?_);refine zAX ?hg (N:=4) ?hd (cs:=#[.int .i64 0,.int .u64 0]) (t:=32) ?hr ?_;(case hd=>rfl);(case hg=>rfl);(case hr=>first|(go_simp;done)|(go_simp;rfl));intro gb112 hg w9 hbox hb;have n0_:=aK_ (zAC (g:=gb110) (o:=.cells #[.int .i64 a0_0,.int .u64 a0_1] 32 (0,0)) (aB_ BK110.out) hb);have n1_:=aK_ (zAC (g:=gb111) (o:=.cells #[.int .i64 a1_0,.int .u64 a1_1] 32 (0,0)) (aB_ BK111.out) hb);have n2_:=aK_ (zAE (aJ_ HB.out GE110.out GE111.out) hb);have n3_:=aK_ (hbox);have n4_:=aK_ ((by rw [hg];exact (zAF (aJ_ HB.out GE110.out GE111.out)):w.heap.size≤gb112));have n5_:=aK_ ((by rw [hg];exact (zAF (aJ_ HB.out GE110.out GE111.out)):w.heap.size≤gb112));have n6_:=aK_ ((by rw [hg];exact Nat.ne_of_lt (zAK (g:=gb110) (o:=.cells #[.int .i64 a0_0,.int .u64 a0_1] 32 (0,0)) (aB_ BK110.out)):gb110≠gb112));have n7_:=aK_ ((by rw [hg];exact Nat.ne_of_gt (zAK (g:=gb110) (o:=.cells #[.int .i64 a0_0,.int .u64 a0_1] 32 (0,0)) (aB_ BK110.out)):gb112≠gb110));have n8_:=aK_ ((by rw [hg];exact Nat.ne_of_lt (zAK (g:=gb111) (o:=.cells #[.int .i64 a1_0,.int .u64 a1_1] 32 (0,0)) (aB_ BK111.out)):gb111≠gb112));have n9_:=aK_ ((by rw [hg];exact Nat.ne_of_gt (zAK (g:=gb111) (o:=.cells #[.int .i64 a1_0,.int .u64 a1_1] 32 (0,0)) (aB_ BK111.out)):gb112≠gb111));clear BK110;clear BK111;clear HB;have BK110:=n0_;have BK111:=n1_;have HB:=n2_;have BK112:=n3_;have GW112:=n4_;have GE112:=n5_;have NB110_112:=n6_;have NB112_110:=n7_;have NB111_112:=n8_;have NB112_111:=n9_;clear n0_ n1_ n2_ n3_ n4_ n5_ n6_ n7_ n8_ n9_;clear hb hbox hg;have hnb10:=NB110_111.out;have hnc10:=NB111_110.out;have hnb11:=NB110_112.out;have hnc11:=NB112_110.out;have hcz12_0:w9.cell? ⟨gb110,0,none⟩=some (.int .i64 a0_0):=(zAB BK110.out 0).trans rfl;have hcz12_1:w9.cell? ⟨gb110,1,none⟩=some (.int .u64 a0_1):=(zAB BK110.out 1).trans rfl;have hfz12_0:=zAA BK110.out 0;have hfz12_1:=zAA BK110.out 1;have hnb13:=NB111_112.out;have hnc13:=NB112_111.out;have hcz14_0:w9.cell? ⟨gb111,0,none⟩=some (.int .i64 a1_0):=(zAB BK111.out 0).trans rfl;have hcz14_1:w9.cell? ⟨gb111,1,none⟩=some (.int .u64 a1_1):=(zAB BK111.out 1).trans rfl;have hfz14_0:=zAA BK111.out 0;have hfz14_1:=zAA BK111.out 1)|((with_reducible refine zAM (f:=50) rfl ?_);refine goesX_ (some 16) rfl rfl Tryz.func50 (by kernel_rfl) rfl #[.int .u64 a0_1,.int .u64 a1_1,.int .u64 0] rfl aM_ ?_;(with_reducible refine (bits_Sub64.calls a0_1 a1_1 0 t113 t114 _ A3.out).mono ?_);rintro e w' ⟨rfl,⟨nd,rfl⟩⟩;refine ⟨_,rfl,?_⟩;(try (rw [drewN_self w9];generalize hq_:World.drewN w9 _=w9;have n0_:zAG (w9.heap[gb110]?=some (.cells #[.int .i64 a0_0,.int .u64 a0_1] 32 (0,0))):=⟨by rw [← hq_];exact (aB_ BK110.out)⟩;have n1_:zAG (w9.heap[gb111]?=some (.cells #[.int .i64 a1_0,.int .u64 a1_1] 32 (0,0))):=⟨by rw [← hq_];exact (aB_ BK111.out)⟩;have n2_:zAG (w9.heap[gb112]?=some (.cells #[.int .i64 0,.int .u64 0] 32 (0,0))):=⟨by rw [← hq_];exact (aB_ BK112.out)⟩;have n3_:zAG (Below w.heap.size w w9):=⟨by rw [← hq_];exact (aQ_ HB.out GE110.out GE111.out GE112.out)⟩;clear BK110 BK111 BK112 HB hq_;have BK110:=n0_;have BK111:=n1_;have BK112:=n2_;have HB:=n3_;clear n0_ n1_ n2_ n3_));have hcz15_0:w9.cell? ⟨gb110,0,none⟩=some (.int .i64 a0_0):=(zAB BK110.out 0).trans rfl;have hcz15_1:w9.cell? ⟨gb110,1,none⟩=some (.int .u64 a0_1):=(zAB BK110.out 1).trans rfl;have hfz15_0:=zAA BK110.out 0;have hfz15_1:=zAA BK110.out 1;have hcz16_0:w9.cell? ⟨gb111,0,none⟩=some (.int .i64 a1_0):=(zAB BK111.out 0).trans rfl;have hcz16_1:w9.cell? ⟨gb111,1,none⟩=some (.int .u64 a1_1):=(zAB BK111.out 1).trans rfl;have hfz16_0:=zAA BK111.out 0;have hfz16_1:=zAA BK111.out 1)|((with_reducible refine zAM (f:=50) rfl ?_);refine goesX_ (some 27) rfl rfl Tryz.func50 (by kernel_rfl) rfl #[.int .u64 (IntKind.u64.wrap (a0_0)),.int .u64 (IntKind.u64.wrap (a1_0)),.int .u64 t114] rfl aM_ ?_;(with_reducible refine (bits_Sub64.calls (IntKind.u64.wrap (a0_0)) (IntKind.u64.wrap (a1_0)) t114 t115 t116 _ A4.out).mono ?_);rintro e w' ⟨rfl,⟨nd,rfl⟩⟩;refine ⟨_,rfl,?_⟩;(try (rw [drewN_self w9];generalize hq_:World.drewN w9 _=w9;have n0_:zAG (w9.heap[gb110]?=some (.cells #[.int .i64 a0_0,.int .u64 a0_1] 32 (0,0))):=⟨by rw [← hq_];exact (aB_ BK110.out)⟩;have n1_:zAG (w9.heap[gb111]?=some (.cells #[.int .i64 a1_0,.int .u64 a1_1] 32 (0,0))):=⟨by rw [← hq_];exact (aB_ BK111.out)⟩;have n2_:zAG (w9.heap[gb112]?=some (.cells #[.int .i64 0,.int .u64 0] 32 (0,0))):=⟨by rw [← hq_];exact (aB_ BK112.out)⟩;have n3_:zAG (Below w.heap.size w w9):=⟨by rw [← hq_];exact (aQ_ HB.out GE110.out GE111.out GE112.out)⟩;clear BK110 BK111 BK112 HB hq_;have BK110:=n0_;have BK111:=n1_;have BK112:=n2_;have HB:=n3_;clear n0_ n1_ n2_ n3_)))|((with_reducible refine zAc (N:=10) rfl ?_);refine zAX ?hg (N:=10) ?hd (cs:=#[.int .i64 0,.int .u64 0]) (t:=32) ?hr ?_;(case hd=>rfl);(case hg=>rfl);(case hr=>first|(go_simp;done)|(go_simp;rfl));intro gb117 hg w17 hbox hb;have n0_:=aK_ (zAC (g:=gb110) (o:=.cells #[.int .i64 a0_0,.int .u64 a0_1] 32 (0,0)) (aB_ BK110.out) hb);have n1_:=aK_ (zAC (g:=gb111) (o:=.cells #[.int .i64 a1_0,.int .u64 a1_1] 32 (0,0)) (aB_ BK111.out) hb);have n2_:=aK_ (zAC (g:=gb112) (o:=.cells #[.int .i64 0,.int .u64 0] 32 (0,0)) (aB_ BK112.out) hb);have n3_:=aK_ (zAE (aQ_ HB.out GE110.out GE111.out GE112.out) hb);have n4_:=aK_ (hbox);have n5_:=aK_ ((by rw [hg];exact (zAF (aQ_ HB.out GE110.out GE111.out GE112.out)):w.heap.size≤gb117));have n6_:=aK_ ((by rw [hg];exact (zAF (aQ_ HB.out GE110.out GE111.out GE112.out)):w.heap.size≤gb117));have n7_:=aK_ ((by rw [hg];exact Nat.ne_of_lt (zAK (g:=gb110) (o:=.cells #[.int .i64 a0_0,.int .u64 a0_1] 32 (0,0)) (aB_ BK110.out)):gb110≠gb117));have n8_:=aK_ ((by rw [hg];exact Nat.ne_of_gt (zAK (g:=gb110) (o:=.cells #[.int .i64 a0_0,.int .u64 a0_1] 32 (0,0)) (aB_ BK110.out)):gb117≠gb110));have n9_:=aK_ ((by rw [hg];exact Nat.ne_of_lt (zAK (g:=gb111) (o:=.cells #[.int .i64 a1_0,.int .u64 a1_1] 32 (0,0)) (aB_ BK111.out)):gb111≠gb117));have n10_:=aK_ ((by rw [hg];exact Nat.ne_of_gt (zAK (g:=gb111) (o:=.cells #[.int .i64 a1_0,.int .u64 a1_1] 32 (0,0)) (aB_ BK111.out)):gb117≠gb111));have n11_:=aK_ ((by rw [hg];exact Nat.ne_of_lt (zAK (g:=gb112) (o:=.cells #[.int .i64 0,.int .u64 0] 32 (0,0)) (aB_ BK112.out)):gb112≠gb117));have n12_:=aK_ ((by rw [hg];exact Nat.ne_of_gt (zAK (g:=gb112) (o:=.cells #[.int .i64 0,.int .u64 0] 32 (0,0)) (aB_ BK112.out)):gb117≠gb112));clear BK110;clear BK111;clear BK112;clear HB;have BK110:=n0_;have BK111:=n1_;have BK112:=n2_;have HB:=n3_;have BK117:=n4_;have GW117:=n5_;have GE117:=n6_;have NB110_117:=n7_;have NB117_110:=n8_;have NB111_117:=n9_;have NB117_111:=n10_;have NB112_117:=n11_;have NB117_112:=n12_;clear n0_ n1_ n2_ n3_ n4_ n5_ n6_ n7_ n8_ n9_ n10_ n11_ n12_;clear hb hbox hg;have hnb18:=NB117_110.out;have hnc18:=NB110_117.out;have hnb19:=NB117_111.out;have hnc19:=NB111_117.out;have hnb20:=NB117_112.out;have hnc20:=NB112_117.out;have hcz21_0:w17.cell? ⟨gb117,0,none⟩=some (.int .i64 0):=(zAB BK117.out 0).trans rfl;have hcz21_1:w17.cell? ⟨gb117,1,none⟩=some (.int .u64 0):=(zAB BK117.out 1).trans rfl;have hfz21_0:=zAA BK117.out 0;have hfz21_1:=zAA BK117.out 1;have hcz22_0:w17.cell? ⟨gb110,0,none⟩=some (.int .i64 a0_0):=(zAB BK110.out 0).trans rfl;have hcz22_1:w17.cell? ⟨gb110,1,none⟩=some (.int .u64 a0_1):=(zAB BK110.out 1).trans rfl;have hfz22_0:=zAA BK110.out 0;have hfz22_1:=zAA BK110.out 1;have hcz23_0:w17.cell? ⟨gb111,0,none⟩=some (.int .i64 a1_0):=(zAB BK111.out 0).trans rfl;have hcz23_1:w17.cell? ⟨gb111,1,none⟩=some (.int .u64 a1_1):=(zAB BK111.out 1).trans rfl;have hfz23_0:=zAA BK111.out 0;have hfz23_1:=zAA BK111.out 1;have hcz24_0:w17.cell? ⟨gb112,0,none⟩=some (.int .i64 0):=(zAB BK112.out 0).trans rfl;have hcz24_1:w17.cell? ⟨gb112,1,none⟩=some (.int .u64 0):=(zAB BK112.out 1).trans rfl;have hfz24_0:=zAA BK112.out 0;have hfz24_1:=zAA BK112.out 1))
 refine bodyPost_ret (results_ct rfl _ _ gb112 32 #[.int .i64 0,.int .u64 0] (0,0) _ rfl (by refine aB_ ?_;refine zAW (cs:=#[.int .i64 0,.int .u64 0]) ?_ 1 _ rfl;refine aB_ ?_;refine zAW (cs:=#[.int .i64 0,.int .u64 0]) ?_ 0 _ rfl;refine aB_ ?_;refine zAT ?_ NB112_117.out _;refine aB_ ?_;refine zAT ?_ NB112_117.out _;refine aB_ ?_;exact BK112.out) Tryz.underlying32 rfl (by kernel_rfl)) rfl ?_
 exact ⟨by first|rfl|(simp [zAP,zAQ] <;> rfl)|(simp [*,zAP,zAQ] <;> rfl),aU_ HB.out GE110.out GE111.out GE112.out GE117.out⟩
end Go.Proofs.YtkikekiokclmdaaGreatDoor.S

namespace Go.Proofs.YtkikekiokclmdaaGreatDoor.S
open Go.RowKit Go.Proofs.YtkikekiokclmdaaGreatDoorW.PrintWords Go.Proofs.YtkikekiokclmdaaGreatDoorW.PrintLast Go.Proofs.YtkikekiokclmdaaGreatDoorW.PrintMore
attribute [local go_sem] max2_int min2_int max_two min_two max_three min_three max_four min_four
def wide_Neg.f (a0_0:Int) (a0_1:Int):Option (Int × Int × Int):=(wide_Sub.f 0 0 a0_0 a0_1).bind fun bt120=>(some (bt120.1,bt120.2.1,bt120.2.2))
set_option maxHeartbeats 8000000 in
set_option maxRecDepth 100000 in
theorem wide_Neg.calls (a0_0:Int) (a0_1:Int) (r1:Int) (r2:Int) (r3:Int) (w:World) (h:wide_Neg.f a0_0 a0_1=some (r1,r2,r3)) :
  Calls Tryz.prog 20 #[.agg #[.int .i64 a0_0,.int .u64 a0_1]] w fun e w'=>e = .returned (.tuple #[.agg #[.int .i64 r1,.int .u64 r2],.int .i64 r3])∧Below w.heap.size w w':=by
 have hu32:=Tryz.underlying32
 have HB:=aK_ (Below.refl w.heap.size w)
 have H:((wide_Sub.f 0 0 a0_0 a0_1).bind fun bt120=>(some (bt120.1,bt120.2.1,bt120.2.2)))=some (r1,r2,r3):=h
 clear h
 replace H:=Option.bind_eq_some_iff.mp H
 obtain ⟨⟨t120,t121,t122⟩,A20,H⟩:=H
 replace H:(some (t120,t121,t122))=some (r1,r2,r3):=H
 have A2:=aK_ A20
 clear A20
 simp only [Option.some.injEq,Prod.mk.injEq] at H
 obtain ⟨rfl,rfl,rfl⟩:=H
 go_enter Tryz.func20,Tryz.ntmps20
 go_wp2_with (first|((with_reducible refine zAc (N:=1) rfl ?_);refine zAX ?hg (N:=1) ?hd (cs:=#[.int .i64 a0_0,.int .u64 a0_1]) (t:=32) ?hr ?_;(case hd=>rfl);(case hg=>rfl);(case hr=>first|(go_simp;done)|(go_simp;rfl));intro gb118 hg w3 hbox hb;have n0_:=aK_ (zAE (aH_ HB.out) hb);have n1_:=aK_ (hbox);have n2_:=aK_ ((by rw [hg];exact (zAF (aH_ HB.out)):w.heap.size≤gb118));have n3_:=aK_ ((by rw [hg];exact (zAF (aH_ HB.out)):w.heap.size≤gb118));clear HB;have HB:=n0_;have BK118:=n1_;have GW118:=n2_;have GE118:=n3_;clear n0_ n1_ n2_ n3_;clear hb hbox hg)|((with_reducible refine zAc (N:=2) rfl ?_);refine zAX ?hg (N:=2) ?hd (cs:=#[.int .i64 0,.int .u64 0]) (t:=32) ?hr ?_;(case hd=>rfl);(case hg=>rfl);(case hr=>first|(go_simp;done)|(go_simp;rfl));intro gb119 hg w4 hbox hb;have n0_:=aK_ (zAC (g:=gb118) (o:=.cells #[.int .i64 a0_0,.int .u64 a0_1] 32 (0,0)) (aB_ BK118.out) hb);have n1_:=aK_ (zAE (aI_ HB.out GE118.out) hb);have n2_:=aK_ (hbox);have n3_:=aK_ ((by rw [hg];exact (zAF (aI_ HB.out GE118.out)):w.heap.size≤gb119));have n4_:=aK_ ((by rw [hg];exact (zAF (aI_ HB.out GE118.out)):w.heap.size≤gb119));have n5_:=aK_ ((by rw [hg];exact Nat.ne_of_lt (zAK (g:=gb118) (o:=.cells #[.int .i64 a0_0,.int .u64 a0_1] 32 (0,0)) (aB_ BK118.out)):gb118≠gb119));have n6_:=aK_ ((by rw [hg];exact Nat.ne_of_gt (zAK (g:=gb118) (o:=.cells #[.int .i64 a0_0,.int .u64 a0_1] 32 (0,0)) (aB_ BK118.out)):gb119≠gb118));clear BK118;clear HB;have BK118:=n0_;have HB:=n1_;have BK119:=n2_;have GW119:=n3_;have GE119:=n4_;have NB118_119:=n5_;have NB119_118:=n6_;clear n0_ n1_ n2_ n3_ n4_ n5_ n6_;clear hb hbox hg;have hnb5:=NB118_119.out;have hnc5:=NB119_118.out;have hcz6_0:w4.cell? ⟨gb118,0,none⟩=some (.int .i64 a0_0):=(zAB BK118.out 0).trans rfl;have hcz6_1:w4.cell? ⟨gb118,1,none⟩=some (.int .u64 a0_1):=(zAB BK118.out 1).trans rfl;have hfz6_0:=zAA BK118.out 0;have hfz6_1:=zAA BK118.out 1)|((with_reducible refine zAM (f:=43) rfl ?_);refine goesL_ (some 6) rfl rfl Tryz.func43 (by kernel_rfl) rfl #[.agg #[.int .i64 0,.int .u64 0],.agg #[.int .i64 a0_0,.int .u64 a0_1]] rfl aM_ ?_;(with_reducible refine (wide_Sub.calls 0 0 a0_0 a0_1 t120 t121 t122 _ A2.out).mono ?_);rintro e w7 ⟨rfl,hb⟩;refine ⟨_,rfl,?_⟩;have n0_:=aK_ (zAC (g:=gb118) (o:=.cells #[.int .i64 a0_0,.int .u64 a0_1] 32 (0,0)) (aB_ BK118.out) hb);have n1_:=aK_ (zAC (g:=gb119) (o:=.cells #[.int .i64 0,.int .u64 0] 32 (0,0)) (aB_ BK119.out) hb);have n2_:=aK_ (zAE (aJ_ HB.out GE118.out GE119.out) hb);clear BK118;clear BK119;clear HB;have BK118:=n0_;have BK119:=n1_;have HB:=n2_;clear n0_ n1_ n2_;(try clear hb);(try clear hb2);(try clear hk);(try clear hi);have hcz8_0:w7.cell? ⟨gb119,0,none⟩=some (.int .i64 0):=(zAB BK119.out 0).trans rfl;have hcz8_1:w7.cell? ⟨gb119,1,none⟩=some (.int .u64 0):=(zAB BK119.out 1).trans rfl;have hfz8_0:=zAA BK119.out 0;have hfz8_1:=zAA BK119.out 1))
 refine bodyPost_ret (results_ct rfl _ _ gb119 32 #[.int .i64 t120,.int .u64 t121] (0,0) _ rfl (by refine aB_ ?_;refine zAW (cs:=#[.int .i64 t120,.int .u64 0]) ?_ 1 _ rfl;refine aB_ ?_;refine zAW (cs:=#[.int .i64 0,.int .u64 0]) ?_ 0 _ rfl;refine aB_ ?_;exact BK119.out) Tryz.underlying32 rfl (by kernel_rfl)) rfl ?_
 exact ⟨by first|rfl|(simp [zAP,zAQ] <;> rfl)|(simp [*,zAP,zAQ] <;> rfl),aJ_ HB.out GE118.out GE119.out⟩
end Go.Proofs.YtkikekiokclmdaaGreatDoor.S

namespace Go.Proofs.YtkikekiokclmdaaGreatDoor.S
open Go.RowKit Go.Proofs.YtkikekiokclmdaaGreatDoorW.PrintWords Go.Proofs.YtkikekiokclmdaaGreatDoorW.PrintLast Go.Proofs.YtkikekiokclmdaaGreatDoorW.PrintMore
attribute [local go_sem] max2_int min2_int max_two min_two max_three min_three max_four min_four
def wide_Abs.f (a0_0:Int) (a0_1:Int):Option (Int × Int):=if a0_0≥0 then (some (IntKind.u64.wrap (a0_0),a0_1)) else ((bits_Sub64.f 0 a0_1 0).bind fun bt124=>((bits_Sub64.f 0 (IntKind.u64.wrap (a0_0)) bt124.2).bind fun bt126=>(some (bt126.1,bt124.1))))
set_option maxHeartbeats 8000000 in
set_option maxRecDepth 100000 in
theorem wide_Abs.calls (a0_0:Int) (a0_1:Int) (r1:Int) (r2:Int) (w:World) (h:wide_Abs.f a0_0 a0_1=some (r1,r2)) :
  Calls Tryz.prog 26 #[.agg #[.int .i64 a0_0,.int .u64 a0_1]] w fun e w'=>e = .returned (.tuple #[.int .u64 r1,.int .u64 r2])∧Below w.heap.size w w':=by
 have hu32:=Tryz.underlying32
 have HB:=aK_ (Below.refl w.heap.size w)
 have H:(if a0_0≥0 then (some (IntKind.u64.wrap (a0_0),a0_1)) else ((bits_Sub64.f 0 a0_1 0).bind fun bt124=>((bits_Sub64.f 0 (IntKind.u64.wrap (a0_0)) bt124.2).bind fun bt126=>(some (bt126.1,bt124.1)))))=some (r1,r2):=h
 clear h
 by_cases c2:a0_0≥0
 ·rw [if_pos c2] at H
  have c2b0:decide (0≤a0_0)=true:=decide_eq_true c2
  clear c2
  simp only [Option.some.injEq,Prod.mk.injEq] at H
  obtain ⟨rfl,rfl⟩:=H
  go_enter Tryz.func26,Tryz.ntmps26
  go_wp2_with (first|((with_reducible refine zAc (N:=1) rfl ?_);refine zAX ?hg (N:=1) ?hd (cs:=#[.int .i64 a0_0,.int .u64 a0_1]) (t:=32) ?hr ?_;(case hd=>rfl);(case hg=>rfl);(case hr=>first|(go_simp;done)|(go_simp;rfl));intro gb123 hg w3 hbox hb;have n0_:=aK_ (zAE (aH_ HB.out) hb);have n1_:=aK_ (hbox);have n2_:=aK_ ((by rw [hg];exact (zAF (aH_ HB.out)):w.heap.size≤gb123));have n3_:=aK_ ((by rw [hg];exact (zAF (aH_ HB.out)):w.heap.size≤gb123));clear HB;have HB:=n0_;have BK123:=n1_;have GW123:=n2_;have GE123:=n3_;clear n0_ n1_ n2_ n3_;clear hb hbox hg;have hcz4_0:w3.cell? ⟨gb123,0,none⟩=some (.int .i64 a0_0):=(zAB BK123.out 0).trans rfl;have hcz4_1:w3.cell? ⟨gb123,1,none⟩=some (.int .u64 a0_1):=(zAB BK123.out 1).trans rfl;have hfz4_0:=zAA BK123.out 0;have hfz4_1:=zAA BK123.out 1))
  repeat (go_quiet (first|((with_reducible refine zAc (N:=1) rfl ?_);refine zAX ?hg (N:=1) ?hd (cs:=#[.int .i64 a0_0,.int .u64 a0_1]) (t:=32) ?hr ?_;(case hd=>rfl);(case hg=>rfl);(case hr=>first|(go_simp;done)|(go_simp;rfl));intro gb123 hg w3 hbox hb;have n0_:=aK_ (zAE (aH_ HB.out) hb);have n1_:=aK_ (hbox);have n2_:=aK_ ((by rw [hg];exact (zAF (aH_ HB.out)):w.heap.size≤gb123));have n3_:=aK_ ((by rw [hg];exact (zAF (aH_ HB.out)):w.heap.size≤gb123));clear HB;have HB:=n0_;have BK123:=n1_;have GW123:=n2_;have GE123:=n3_;clear n0_ n1_ n2_ n3_;clear hb hbox hg;have hcz4_0:w3.cell? ⟨gb123,0,none⟩=some (.int .i64 a0_0):=(zAB BK123.out 0).trans rfl;have hcz4_1:w3.cell? ⟨gb123,1,none⟩=some (.int .u64 a0_1):=(zAB BK123.out 1).trans rfl;have hfz4_0:=zAA BK123.out 0;have hfz4_1:=zAA BK123.out 1));try go_wp2_with (first|((with_reducible refine zAc (N:=1) rfl ?_);refine zAX ?hg (N:=1) ?hd (cs:=#[.int .i64 a0_0,.int .u64 a0_1]) (t:=32) ?hr ?_;(case hd=>rfl);(case hg=>rfl);(case hr=>first|(go_simp;done)|(go_simp;rfl));intro gb123 hg w3 hbox hb;have n0_:=aK_ (zAE (aH_ HB.out) hb);have n1_:=aK_ (hbox);have n2_:=aK_ ((by rw [hg];exact (zAF (aH_ HB.out)):w.heap.size≤gb123));have n3_:=aK_ ((by rw [hg];exact (zAF (aH_ HB.out)):w.heap.size≤gb123));clear HB;have HB:=n0_;have BK123:=n1_;have GW123:=n2_;have GE123:=n3_;clear n0_ n1_ n2_ n3_;clear hb hbox hg;have hcz4_0:w3.cell? ⟨gb123,0,none⟩=some (.int .i64 a0_0):=(zAB BK123.out 0).trans rfl;have hcz4_1:w3.cell? ⟨gb123,1,none⟩=some (.int .u64 a0_1):=(zAB BK123.out 1).trans rfl;have hfz4_0:=zAA BK123.out 0;have hfz4_1:=zAA BK123.out 1)))
  go_ret2
  exact ⟨by first|rfl|(simp [zAP,zAQ] <;> rfl)|(simp [*,zAP,zAQ] <;> rfl),aI_ HB.out GE123.out⟩
 rw [if_neg c2] at H
 have c2b0:decide (0≤a0_0)=false:=decide_eq_false c2
 clear c2
 replace H:=Option.bind_eq_some_iff.mp H
 obtain ⟨⟨t124,t125⟩,A50,H⟩:=H
 replace H:((bits_Sub64.f 0 (IntKind.u64.wrap (a0_0)) t125).bind fun bt126=>(some (bt126.1,t124)))=some (r1,r2):=H
 have A5:=aK_ A50
 clear A50
 replace H:=Option.bind_eq_some_iff.mp H
 obtain ⟨⟨t126,t127⟩,A60,H⟩:=H
 replace H:(some (t126,t124))=some (r1,r2):=H
 have A6:=aK_ A60
 clear A60
 simp only [Option.some.injEq,Prod.mk.injEq] at H
 obtain ⟨rfl,rfl⟩:=H
 go_enter Tryz.func26,Tryz.ntmps26
 go_wp2_with (first|((with_reducible refine zAc (N:=1) rfl ?_);refine zAX ?hg (N:=1) ?hd (cs:=#[.int .i64 a0_0,.int .u64 a0_1]) (t:=32) ?hr ?_;(case hd=>rfl);(case hg=>rfl);(case hr=>first|(go_simp;done)|(go_simp;rfl));intro gb123 hg w7 hbox hb;have n0_:=aK_ (zAE (aH_ HB.out) hb);have n1_:=aK_ (hbox);have n2_:=aK_ ((by rw [hg];exact (zAF (aH_ HB.out)):w.heap.size≤gb123));have n3_:=aK_ ((by rw [hg];exact (zAF (aH_ HB.out)):w.heap.size≤gb123));clear HB;have HB:=n0_;have BK123:=n1_;have GW123:=n2_;have GE123:=n3_;clear n0_ n1_ n2_ n3_;clear hb hbox hg;have hcz8_0:w7.cell? ⟨gb123,0,none⟩=some (.int .i64 a0_0):=(zAB BK123.out 0).trans rfl;have hcz8_1:w7.cell? ⟨gb123,1,none⟩=some (.int .u64 a0_1):=(zAB BK123.out 1).trans rfl;have hfz8_0:=zAA BK123.out 0;have hfz8_1:=zAA BK123.out 1)|(refine upon_x (f:=50) ?_;(with_reducible refine (bits_Sub64.calls 0 a0_1 0 t124 t125 _ A5.out).mono ?_);rintro e w' ⟨rfl,⟨nd,rfl⟩⟩;(try first|exact ⟨rfl,_,World.drewN_drewN _ _ _⟩|exact ⟨rfl,_,Eq.trans (World.drewN_drewN _ _ _) (congrArg (World.drewN _) (Nat.add_assoc _ _ _))⟩))|(refine upon_x (f:=50) ?_;(with_reducible refine (bits_Sub64.calls 0 (IntKind.u64.wrap (a0_0)) t125 t126 t127 _ A6.out).mono ?_);rintro e w' ⟨rfl,⟨nd,rfl⟩⟩;(try first|exact ⟨rfl,_,World.drewN_drewN _ _ _⟩|exact ⟨rfl,_,Eq.trans (World.drewN_drewN _ _ _) (congrArg (World.drewN _) (Nat.add_assoc _ _ _))⟩)))
 repeat (go_quiet (first|((with_reducible refine zAc (N:=1) rfl ?_);refine zAX ?hg (N:=1) ?hd (cs:=#[.int .i64 a0_0,.int .u64 a0_1]) (t:=32) ?hr ?_;(case hd=>rfl);(case hg=>rfl);(case hr=>first|(go_simp;done)|(go_simp;rfl));intro gb123 hg w7 hbox hb;have n0_:=aK_ (zAE (aH_ HB.out) hb);have n1_:=aK_ (hbox);have n2_:=aK_ ((by rw [hg];exact (zAF (aH_ HB.out)):w.heap.size≤gb123));have n3_:=aK_ ((by rw [hg];exact (zAF (aH_ HB.out)):w.heap.size≤gb123));clear HB;have HB:=n0_;have BK123:=n1_;have GW123:=n2_;have GE123:=n3_;clear n0_ n1_ n2_ n3_;clear hb hbox hg;have hcz8_0:w7.cell? ⟨gb123,0,none⟩=some (.int .i64 a0_0):=(zAB BK123.out 0).trans rfl;have hcz8_1:w7.cell? ⟨gb123,1,none⟩=some (.int .u64 a0_1):=(zAB BK123.out 1).trans rfl;have hfz8_0:=zAA BK123.out 0;have hfz8_1:=zAA BK123.out 1)|(refine upon_x (f:=50) ?_;(with_reducible refine (bits_Sub64.calls 0 a0_1 0 t124 t125 _ A5.out).mono ?_);rintro e w' ⟨rfl,⟨nd,rfl⟩⟩;(try first|exact ⟨rfl,_,World.drewN_drewN _ _ _⟩|exact ⟨rfl,_,Eq.trans (World.drewN_drewN _ _ _) (congrArg (World.drewN _) (Nat.add_assoc _ _ _))⟩))|(refine upon_x (f:=50) ?_;(with_reducible refine (bits_Sub64.calls 0 (IntKind.u64.wrap (a0_0)) t125 t126 t127 _ A6.out).mono ?_);rintro e w' ⟨rfl,⟨nd,rfl⟩⟩;(try first|exact ⟨rfl,_,World.drewN_drewN _ _ _⟩|exact ⟨rfl,_,Eq.trans (World.drewN_drewN _ _ _) (congrArg (World.drewN _) (Nat.add_assoc _ _ _))⟩)));try go_wp2_with (first|((with_reducible refine zAc (N:=1) rfl ?_);refine zAX ?hg (N:=1) ?hd (cs:=#[.int .i64 a0_0,.int .u64 a0_1]) (t:=32) ?hr ?_;(case hd=>rfl);(case hg=>rfl);(case hr=>first|(go_simp;done)|(go_simp;rfl));intro gb123 hg w7 hbox hb;have n0_:=aK_ (zAE (aH_ HB.out) hb);have n1_:=aK_ (hbox);have n2_:=aK_ ((by rw [hg];exact (zAF (aH_ HB.out)):w.heap.size≤gb123));have n3_:=aK_ ((by rw [hg];exact (zAF (aH_ HB.out)):w.heap.size≤gb123));clear HB;have HB:=n0_;have BK123:=n1_;have GW123:=n2_;have GE123:=n3_;clear n0_ n1_ n2_ n3_;clear hb hbox hg;have hcz8_0:w7.cell? ⟨gb123,0,none⟩=some (.int .i64 a0_0):=(zAB BK123.out 0).trans rfl;have hcz8_1:w7.cell? ⟨gb123,1,none⟩=some (.int .u64 a0_1):=(zAB BK123.out 1).trans rfl;have hfz8_0:=zAA BK123.out 0;have hfz8_1:=zAA BK123.out 1)|(refine upon_x (f:=50) ?_;(with_reducible refine (bits_Sub64.calls 0 a0_1 0 t124 t125 _ A5.out).mono ?_);rintro e w' ⟨rfl,⟨nd,rfl⟩⟩;(try first|exact ⟨rfl,_,World.drewN_drewN _ _ _⟩|exact ⟨rfl,_,Eq.trans (World.drewN_drewN _ _ _) (congrArg (World.drewN _) (Nat.add_assoc _ _ _))⟩))|(refine upon_x (f:=50) ?_;(with_reducible refine (bits_Sub64.calls 0 (IntKind.u64.wrap (a0_0)) t125 t126 t127 _ A6.out).mono ?_);rintro e w' ⟨rfl,⟨nd,rfl⟩⟩;(try first|exact ⟨rfl,_,World.drewN_drewN _ _ _⟩|exact ⟨rfl,_,Eq.trans (World.drewN_drewN _ _ _) (congrArg (World.drewN _) (Nat.add_assoc _ _ _))⟩))))
 go_ret2
 exact ⟨by first|rfl|(simp [zAP,zAQ] <;> rfl)|(simp [*,zAP,zAQ] <;> rfl),aI_ HB.out GE123.out⟩
end Go.Proofs.YtkikekiokclmdaaGreatDoor.S

namespace Go.Proofs.YtkikekiokclmdaaGreatDoor.S
open Go.RowKit Go.Proofs.YtkikekiokclmdaaGreatDoorW.PrintWords Go.Proofs.YtkikekiokclmdaaGreatDoorW.PrintLast Go.Proofs.YtkikekiokclmdaaGreatDoorW.PrintMore
attribute [local go_sem] max2_int min2_int max_two min_two max_three min_three max_four min_four
def wide_Join.f (a0:Bool) (a1:Int) (a2:Int):Option (Int × Int × Int):=if (a1 / 9223372036854775808)=0 then (if a0=true then ((wide_Neg.f (wrap64 (a1)) a2).bind fun bt130=>(some (bt130.1,bt130.2.1,bt130.2.2))) else (some (wrap64 (a1),a2,0))) else (if a0=true then (if a1=9223372036854775808 then (if a2=0 then (some ((-9223372036854775808),0,0)) else (some (0,0,10))) else (some (0,0,10))) else (some (0,0,10)))
set_option maxHeartbeats 8000000 in
set_option maxRecDepth 100000 in
theorem wide_Join.calls (a0:Bool) (a1:Int) (a2:Int) (r1:Int) (r2:Int) (r3:Int) (w:World) (h:wide_Join.f a0 a1 a2=some (r1,r2,r3)) :
  Calls Tryz.prog 47 #[.bool a0,.int .u64 a1,.int .u64 a2] w fun e w'=>e = .returned (.tuple #[.agg #[.int .i64 r1,.int .u64 r2],.int .i64 r3])∧Below w.heap.size w w':=by
 have hu32:=Tryz.underlying32
 have HB:=aK_ (Below.refl w.heap.size w)
 have H:(if (a1 / 9223372036854775808)=0 then (if a0=true then ((wide_Neg.f (wrap64 (a1)) a2).bind fun bt130=>(some (bt130.1,bt130.2.1,bt130.2.2))) else (some (wrap64 (a1),a2,0))) else (if a0=true then (if a1=9223372036854775808 then (if a2=0 then (some ((-9223372036854775808),0,0)) else (some (0,0,10))) else (some (0,0,10))) else (some (0,0,10))))=some (r1,r2,r3):=h
 clear h
 by_cases c4:(a1 / 9223372036854775808)=0
 rotate_left
 ·rw [if_neg c4] at H
  have c4b0:((a1 / 9223372036854775808) == 0)=false:=beq_eq_false_iff_ne.mpr c4
  have c4b1:((a1 / 9223372036854775808) != 0)=true:=bne_iff_ne.mpr c4
  by_cases c18:a0=true
  rotate_left
  ·replace c18:=Bool.eq_false_iff.mpr c18
   subst c18
   have H1:(some (0,0,10))=some (r1,r2,r3):=by rw [if_neg (show ¬ (false=true) by decide)] at H;exact H
   clear H
   have H:=H1
   clear H1
   simp only [Option.some.injEq,Prod.mk.injEq] at H
   obtain ⟨rfl,rfl,rfl⟩:=H
   go_enter Tryz.func47,Tryz.ntmps47
   go_wp2_with (first|((with_reducible refine zAc (N:=6) rfl ?_);refine zAX ?hg (N:=6) ?hd (cs:=#[.int .i64 0,.int .u64 0]) (t:=32) ?hr ?_;(case hd=>rfl);(case hg=>rfl);(case hr=>first|(go_simp;done)|(go_simp;rfl));intro gb128 hg w27 hbox hb;have n0_:=aK_ (zAE (aH_ HB.out) hb);have n1_:=aK_ (hbox);have n2_:=aK_ ((by rw [hg];exact (zAF (aH_ HB.out)):w.heap.size≤gb128));have n3_:=aK_ ((by rw [hg];exact (zAF (aH_ HB.out)):w.heap.size≤gb128));clear HB;have HB:=n0_;have BK128:=n1_;have GW128:=n2_;have GE128:=n3_;clear n0_ n1_ n2_ n3_;clear hb hbox hg;have hcz28_0:w27.cell? ⟨gb128,0,none⟩=some (.int .i64 0):=(zAB BK128.out 0).trans rfl;have hcz28_1:w27.cell? ⟨gb128,1,none⟩=some (.int .u64 0):=(zAB BK128.out 1).trans rfl;have hfz28_0:=zAA BK128.out 0;have hfz28_1:=zAA BK128.out 1))
   refine bodyPost_ret (results_ct rfl _ _ gb128 32 #[.int .i64 0,.int .u64 0] (0,0) _ rfl (by refine aB_ ?_;refine zAW (cs:=#[.int .i64 0,.int .u64 0]) ?_ 1 _ rfl;refine aB_ ?_;refine zAW (cs:=#[.int .i64 0,.int .u64 0]) ?_ 0 _ rfl;refine aB_ ?_;exact BK128.out) Tryz.underlying32 rfl (by kernel_rfl)) rfl ?_
   exact ⟨by first|rfl|(simp [zAP,zAQ] <;> rfl)|(simp [*,zAP,zAQ] <;> rfl),aI_ HB.out GE128.out⟩
  subst c18
  have H1:(if a1=9223372036854775808 then (if a2=0 then (some ((-9223372036854775808),0,0)) else (some (0,0,10))) else (some (0,0,10)))=some (r1,r2,r3):=by rw [if_pos rfl] at H;exact H
  clear H
  have H:=H1
  clear H1
  by_cases c19:a1=9223372036854775808
  rotate_left
  ·rw [if_neg c19] at H
   have c19b0:(a1 == 9223372036854775808)=false:=beq_eq_false_iff_ne.mpr c19
   have c19b1:(a1 != 9223372036854775808)=true:=bne_iff_ne.mpr c19
   simp only [Option.some.injEq,Prod.mk.injEq] at H
   obtain ⟨rfl,rfl,rfl⟩:=H
   go_enter Tryz.func47,Tryz.ntmps47
   go_wp2_with (first|((with_reducible refine zAc (N:=6) rfl ?_);refine zAX ?hg (N:=6) ?hd (cs:=#[.int .i64 0,.int .u64 0]) (t:=32) ?hr ?_;(case hd=>rfl);(case hg=>rfl);(case hr=>first|(go_simp;done)|(go_simp;rfl));intro gb128 hg w25 hbox hb;have n0_:=aK_ (zAE (aH_ HB.out) hb);have n1_:=aK_ (hbox);have n2_:=aK_ ((by rw [hg];exact (zAF (aH_ HB.out)):w.heap.size≤gb128));have n3_:=aK_ ((by rw [hg];exact (zAF (aH_ HB.out)):w.heap.size≤gb128));clear HB;have HB:=n0_;have BK128:=n1_;have GW128:=n2_;have GE128:=n3_;clear n0_ n1_ n2_ n3_;clear hb hbox hg;have hcz26_0:w25.cell? ⟨gb128,0,none⟩=some (.int .i64 0):=(zAB BK128.out 0).trans rfl;have hcz26_1:w25.cell? ⟨gb128,1,none⟩=some (.int .u64 0):=(zAB BK128.out 1).trans rfl;have hfz26_0:=zAA BK128.out 0;have hfz26_1:=zAA BK128.out 1))
   refine bodyPost_ret (results_ct rfl _ _ gb128 32 #[.int .i64 0,.int .u64 0] (0,0) _ rfl (by refine aB_ ?_;refine zAW (cs:=#[.int .i64 0,.int .u64 0]) ?_ 1 _ rfl;refine aB_ ?_;refine zAW (cs:=#[.int .i64 0,.int .u64 0]) ?_ 0 _ rfl;refine aB_ ?_;exact BK128.out) Tryz.underlying32 rfl (by kernel_rfl)) rfl ?_
   exact ⟨by first|rfl|(simp [zAP,zAQ] <;> rfl)|(simp [*,zAP,zAQ] <;> rfl),aI_ HB.out GE128.out⟩
  rw [if_pos c19] at H
  have c19b0:(a1 == 9223372036854775808)=true:=beq_iff_eq.mpr c19
  have c19b1:(a1 != 9223372036854775808)=false:=bne_eq_false_iff_eq.mpr c19
  clear c19
  by_cases c20:a2=0
  rotate_left
  ·rw [if_neg c20] at H
   have c20b0:(a2 == 0)=false:=beq_eq_false_iff_ne.mpr c20
   have c20b1:(a2 != 0)=true:=bne_iff_ne.mpr c20
   simp only [Option.some.injEq,Prod.mk.injEq] at H
   obtain ⟨rfl,rfl,rfl⟩:=H
   go_enter Tryz.func47,Tryz.ntmps47
   go_wp2_with (first|((with_reducible refine zAc (N:=6) rfl ?_);refine zAX ?hg (N:=6) ?hd (cs:=#[.int .i64 0,.int .u64 0]) (t:=32) ?hr ?_;(case hd=>rfl);(case hg=>rfl);(case hr=>first|(go_simp;done)|(go_simp;rfl));intro gb128 hg w23 hbox hb;have n0_:=aK_ (zAE (aH_ HB.out) hb);have n1_:=aK_ (hbox);have n2_:=aK_ ((by rw [hg];exact (zAF (aH_ HB.out)):w.heap.size≤gb128));have n3_:=aK_ ((by rw [hg];exact (zAF (aH_ HB.out)):w.heap.size≤gb128));clear HB;have HB:=n0_;have BK128:=n1_;have GW128:=n2_;have GE128:=n3_;clear n0_ n1_ n2_ n3_;clear hb hbox hg;have hcz24_0:w23.cell? ⟨gb128,0,none⟩=some (.int .i64 0):=(zAB BK128.out 0).trans rfl;have hcz24_1:w23.cell? ⟨gb128,1,none⟩=some (.int .u64 0):=(zAB BK128.out 1).trans rfl;have hfz24_0:=zAA BK128.out 0;have hfz24_1:=zAA BK128.out 1))
   refine bodyPost_ret (results_ct rfl _ _ gb128 32 #[.int .i64 0,.int .u64 0] (0,0) _ rfl (by refine aB_ ?_;refine zAW (cs:=#[.int .i64 0,.int .u64 0]) ?_ 1 _ rfl;refine aB_ ?_;refine zAW (cs:=#[.int .i64 0,.int .u64 0]) ?_ 0 _ rfl;refine aB_ ?_;exact BK128.out) Tryz.underlying32 rfl (by kernel_rfl)) rfl ?_
   exact ⟨by first|rfl|(simp [zAP,zAQ] <;> rfl)|(simp [*,zAP,zAQ] <;> rfl),aI_ HB.out GE128.out⟩
  rw [if_pos c20] at H
  have c20b0:(a2 == 0)=true:=beq_iff_eq.mpr c20
  have c20b1:(a2 != 0)=false:=bne_eq_false_iff_eq.mpr c20
  clear c20
  simp only [Option.some.injEq,Prod.mk.injEq] at H
  obtain ⟨rfl,rfl,rfl⟩:=H
  go_enter Tryz.func47,Tryz.ntmps47
  go_wp2_with (first|((with_reducible refine zAc (N:=6) rfl ?_);refine zAX ?hg (N:=6) ?hd (cs:=#[.int .i64 0,.int .u64 0]) (t:=32) ?hr ?_;(case hd=>rfl);(case hg=>rfl);(case hr=>first|(go_simp;done)|(go_simp;rfl));intro gb128 hg w21 hbox hb;have n0_:=aK_ (zAE (aH_ HB.out) hb);have n1_:=aK_ (hbox);have n2_:=aK_ ((by rw [hg];exact (zAF (aH_ HB.out)):w.heap.size≤gb128));have n3_:=aK_ ((by rw [hg];exact (zAF (aH_ HB.out)):w.heap.size≤gb128));clear HB;have HB:=n0_;have BK128:=n1_;have GW128:=n2_;have GE128:=n3_;clear n0_ n1_ n2_ n3_;clear hb hbox hg;have hcz22_0:w21.cell? ⟨gb128,0,none⟩=some (.int .i64 0):=(zAB BK128.out 0).trans rfl;have hcz22_1:w21.cell? ⟨gb128,1,none⟩=some (.int .u64 0):=(zAB BK128.out 1).trans rfl;have hfz22_0:=zAA BK128.out 0;have hfz22_1:=zAA BK128.out 1))
  refine bodyPost_ret (results_ct rfl _ _ gb128 32 #[.int .i64 (-9223372036854775808),.int .u64 0] (0,0) _ rfl (by refine aB_ ?_;refine zAW (cs:=#[.int .i64 (-9223372036854775808),.int .u64 0]) ?_ 1 _ rfl;refine aB_ ?_;refine zAW (cs:=#[.int .i64 0,.int .u64 0]) ?_ 0 _ rfl;refine aB_ ?_;exact BK128.out) Tryz.underlying32 rfl (by kernel_rfl)) rfl ?_
  exact ⟨by first|rfl|(simp [zAP,zAQ] <;> rfl)|(simp [*,zAP,zAQ] <;> rfl),aI_ HB.out GE128.out⟩
 rw [if_pos c4] at H
 have c4b0:((a1 / 9223372036854775808) == 0)=true:=beq_iff_eq.mpr c4
 have c4b1:((a1 / 9223372036854775808) != 0)=false:=bne_eq_false_iff_eq.mpr c4
 clear c4
 by_cases c5:a0=true
 rotate_left
 ·replace c5:=Bool.eq_false_iff.mpr c5
  subst c5
  have H1:(some (wrap64 (a1),a2,0))=some (r1,r2,r3):=by rw [if_neg (show ¬ (false=true) by decide)] at H;exact H
  clear H
  have H:=H1
  clear H1
  simp only [Option.some.injEq,Prod.mk.injEq] at H
  obtain ⟨rfl,rfl,rfl⟩:=H
  go_enter Tryz.func47,Tryz.ntmps47
  go_wp2_with (first|((with_reducible refine zAc (N:=6) rfl ?_);refine zAX ?hg (N:=6) ?hd (cs:=#[.int .i64 0,.int .u64 0]) (t:=32) ?hr ?_;(case hd=>rfl);(case hg=>rfl);(case hr=>first|(go_simp;done)|(go_simp;rfl));intro gb128 hg w13 hbox hb;have n0_:=aK_ (zAE (aH_ HB.out) hb);have n1_:=aK_ (hbox);have n2_:=aK_ ((by rw [hg];exact (zAF (aH_ HB.out)):w.heap.size≤gb128));have n3_:=aK_ ((by rw [hg];exact (zAF (aH_ HB.out)):w.heap.size≤gb128));clear HB;have HB:=n0_;have BK128:=n1_;have GW128:=n2_;have GE128:=n3_;clear n0_ n1_ n2_ n3_;clear hb hbox hg)|((with_reducible refine zAc (N:=8) rfl ?_);refine zAX ?hg (N:=8) ?hd (cs:=#[.int .i64 0,.int .u64 0]) (t:=32) ?hr ?_;(case hd=>rfl);(case hg=>rfl);(case hr=>first|(go_simp;done)|(go_simp;rfl));intro gb129 hg w14 hbox hb;have n0_:=aK_ (zAC (g:=gb128) (o:=.cells #[.int .i64 0,.int .u64 0] 32 (0,0)) (aB_ BK128.out) hb);have n1_:=aK_ (zAE (aI_ HB.out GE128.out) hb);have n2_:=aK_ (hbox);have n3_:=aK_ ((by rw [hg];exact (zAF (aI_ HB.out GE128.out)):w.heap.size≤gb129));have n4_:=aK_ ((by rw [hg];exact (zAF (aI_ HB.out GE128.out)):w.heap.size≤gb129));have n5_:=aK_ ((by rw [hg];exact Nat.ne_of_lt (zAK (g:=gb128) (o:=.cells #[.int .i64 0,.int .u64 0] 32 (0,0)) (aB_ BK128.out)):gb128≠gb129));have n6_:=aK_ ((by rw [hg];exact Nat.ne_of_gt (zAK (g:=gb128) (o:=.cells #[.int .i64 0,.int .u64 0] 32 (0,0)) (aB_ BK128.out)):gb129≠gb128));clear BK128;clear HB;have BK128:=n0_;have HB:=n1_;have BK129:=n2_;have GW129:=n3_;have GE129:=n4_;have NB128_129:=n5_;have NB129_128:=n6_;clear n0_ n1_ n2_ n3_ n4_ n5_ n6_;clear hb hbox hg;have hnb15:=NB129_128.out;have hnc15:=NB128_129.out;have hcz16_0:w14.cell? ⟨gb129,0,none⟩=some (.int .i64 0):=(zAB BK129.out 0).trans rfl;have hcz16_1:w14.cell? ⟨gb129,1,none⟩=some (.int .u64 0):=(zAB BK129.out 1).trans rfl;have hfz16_0:=zAA BK129.out 0;have hfz16_1:=zAA BK129.out 1;have hcz17_0:w14.cell? ⟨gb128,0,none⟩=some (.int .i64 0):=(zAB BK128.out 0).trans rfl;have hcz17_1:w14.cell? ⟨gb128,1,none⟩=some (.int .u64 0):=(zAB BK128.out 1).trans rfl;have hfz17_0:=zAA BK128.out 0;have hfz17_1:=zAA BK128.out 1))
  refine bodyPost_ret (results_ct rfl _ _ gb128 32 #[.int .i64 (wrap64 (a1)),.int .u64 a2] (0,0) _ rfl (by refine aB_ ?_;refine zAW (cs:=#[.int .i64 (wrap64 (a1)),.int .u64 0]) ?_ 1 _ rfl;refine aB_ ?_;refine zAW (cs:=#[.int .i64 0,.int .u64 0]) ?_ 0 _ rfl;refine aB_ ?_;refine zAT ?_ NB128_129.out _;refine aB_ ?_;refine zAT ?_ NB128_129.out _;refine aB_ ?_;exact BK128.out) Tryz.underlying32 rfl (by kernel_rfl)) rfl ?_
  exact ⟨by first|rfl|(simp [zAP,zAQ] <;> rfl)|(simp [*,zAP,zAQ] <;> rfl),aJ_ HB.out GE128.out GE129.out⟩
 subst c5
 have H1:((wide_Neg.f (wrap64 (a1)) a2).bind fun bt130=>(some (bt130.1,bt130.2.1,bt130.2.2)))=some (r1,r2,r3):=by rw [if_pos rfl] at H;exact H
 clear H
 have H:=H1
 clear H1
 replace H:=Option.bind_eq_some_iff.mp H
 obtain ⟨⟨t130,t131,t132⟩,A60,H⟩:=H
 replace H:(some (t130,t131,t132))=some (r1,r2,r3):=H
 have A6:=aK_ A60
 clear A60
 simp only [Option.some.injEq,Prod.mk.injEq] at H
 obtain ⟨rfl,rfl,rfl⟩:=H
 go_enter Tryz.func47,Tryz.ntmps47
 go_wp2_with (first|((with_reducible refine zAc (N:=6) rfl ?_);refine zAX ?hg (N:=6) ?hd (cs:=#[.int .i64 0,.int .u64 0]) (t:=32) ?hr ?_;(case hd=>rfl);(case hg=>rfl);(case hr=>first|(go_simp;done)|(go_simp;rfl));intro gb128 hg w7 hbox hb;have n0_:=aK_ (zAE (aH_ HB.out) hb);have n1_:=aK_ (hbox);have n2_:=aK_ ((by rw [hg];exact (zAF (aH_ HB.out)):w.heap.size≤gb128));have n3_:=aK_ ((by rw [hg];exact (zAF (aH_ HB.out)):w.heap.size≤gb128));clear HB;have HB:=n0_;have BK128:=n1_;have GW128:=n2_;have GE128:=n3_;clear n0_ n1_ n2_ n3_;clear hb hbox hg)|((with_reducible refine zAc (N:=8) rfl ?_);refine zAX ?hg (N:=8) ?hd (cs:=#[.int .i64 0,.int .u64 0]) (t:=32) ?hr ?_;(case hd=>rfl);(case hg=>rfl);(case hr=>first|(go_simp;done)|(go_simp;rfl));intro gb129 hg w8 hbox hb;have n0_:=aK_ (zAC (g:=gb128) (o:=.cells #[.int .i64 0,.int .u64 0] 32 (0,0)) (aB_ BK128.out) hb);have n1_:=aK_ (zAE (aI_ HB.out GE128.out) hb);have n2_:=aK_ (hbox);have n3_:=aK_ ((by rw [hg];exact (zAF (aI_ HB.out GE128.out)):w.heap.size≤gb129));have n4_:=aK_ ((by rw [hg];exact (zAF (aI_ HB.out GE128.out)):w.heap.size≤gb129));have n5_:=aK_ ((by rw [hg];exact Nat.ne_of_lt (zAK (g:=gb128) (o:=.cells #[.int .i64 0,.int .u64 0] 32 (0,0)) (aB_ BK128.out)):gb128≠gb129));have n6_:=aK_ ((by rw [hg];exact Nat.ne_of_gt (zAK (g:=gb128) (o:=.cells #[.int .i64 0,.int .u64 0] 32 (0,0)) (aB_ BK128.out)):gb129≠gb128));clear BK128;clear HB;have BK128:=n0_;have HB:=n1_;have BK129:=n2_;have GW129:=n3_;have GE129:=n4_;have NB128_129:=n5_;have NB129_128:=n6_;clear n0_ n1_ n2_ n3_ n4_ n5_ n6_;clear hb hbox hg;have hnb9:=NB129_128.out;have hnc9:=NB128_129.out;have hcz10_0:w8.cell? ⟨gb129,0,none⟩=some (.int .i64 0):=(zAB BK129.out 0).trans rfl;have hcz10_1:w8.cell? ⟨gb129,1,none⟩=some (.int .u64 0):=(zAB BK129.out 1).trans rfl;have hfz10_0:=zAA BK129.out 0;have hfz10_1:=zAA BK129.out 1)|((with_reducible refine zAM (f:=20) rfl ?_);refine goesL_ (some 18) rfl rfl Tryz.func20 (by kernel_rfl) rfl #[.agg #[.int .i64 (wrap64 (a1)),.int .u64 a2]] rfl aM_ ?_;(with_reducible refine (wide_Neg.calls (wrap64 (a1)) a2 t130 t131 t132 _ A6.out).mono ?_);rintro e w11 ⟨rfl,hb⟩;refine ⟨_,rfl,?_⟩;have n0_:=aK_ (zAC (g:=gb128) (o:=.cells #[.int .i64 0,.int .u64 0] 32 (0,0)) (by refine aB_ ?_;refine zAT ?_ NB128_129.out _;refine aB_ ?_;refine zAT ?_ NB128_129.out _;refine aB_ ?_;exact BK128.out) hb);have n1_:=aK_ (zAC (g:=gb129) (o:=.cells #[.int .i64 (wrap64 (a1)),.int .u64 a2] 32 (0,0)) (by refine aB_ ?_;refine zAW (cs:=#[.int .i64 (wrap64 (a1)),.int .u64 0]) ?_ 1 _ rfl;refine aB_ ?_;refine zAW (cs:=#[.int .i64 0,.int .u64 0]) ?_ 0 _ rfl;refine aB_ ?_;exact BK129.out) hb);have n2_:=aK_ (zAE (aJ_ HB.out GE128.out GE129.out) hb);clear BK128;clear BK129;clear HB;have BK128:=n0_;have BK129:=n1_;have HB:=n2_;clear n0_ n1_ n2_;(try clear hb);(try clear hb2);(try clear hk);(try clear hi);have hcz12_0:w11.cell? ⟨gb128,0,none⟩=some (.int .i64 0):=(zAB BK128.out 0).trans rfl;have hcz12_1:w11.cell? ⟨gb128,1,none⟩=some (.int .u64 0):=(zAB BK128.out 1).trans rfl;have hfz12_0:=zAA BK128.out 0;have hfz12_1:=zAA BK128.out 1))
 refine bodyPost_ret (results_ct rfl _ _ gb128 32 #[.int .i64 t130,.int .u64 t131] (0,0) _ rfl (by refine aB_ ?_;refine zAW (cs:=#[.int .i64 t130,.int .u64 0]) ?_ 1 _ rfl;refine aB_ ?_;refine zAW (cs:=#[.int .i64 0,.int .u64 0]) ?_ 0 _ rfl;refine aB_ ?_;exact BK128.out) Tryz.underlying32 rfl (by kernel_rfl)) rfl ?_
 exact ⟨by first|rfl|(simp [zAP,zAQ] <;> rfl)|(simp [*,zAP,zAQ] <;> rfl),aJ_ HB.out GE128.out GE129.out⟩
end Go.Proofs.YtkikekiokclmdaaGreatDoor.S

namespace Go.Proofs.YtkikekiokclmdaaGreatDoor.S
open Go.RowKit Go.Proofs.YtkikekiokclmdaaGreatDoorW.PrintWords Go.Proofs.YtkikekiokclmdaaGreatDoorW.PrintLast Go.Proofs.YtkikekiokclmdaaGreatDoorW.PrintMore
attribute [local go_sem] max2_int min2_int max_two min_two max_three min_three max_four min_four
def times_Mul.j0:Nat→Int→Int→Int→Int→Bool→Int→Int→Int→Int→Option (Int × Int × Int)
 |0,_,_,_,_,_,_,_,_,_=>none
 |k+1,x6,x7,x8,x9,x30,x134000,x134001,x135000,x135001=>if x30=true then (some (0,0,10)) else ((bits_Mul64.f x7 x9).bind fun bt140=>((times_pick.f (x6 != 0) x9 x7).bind fun t142=>((bits_Mul64.f (Go.bits .or .u64 x6 x8) t142).bind fun bt143=>((bits_Add64.f bt140.1 bt143.2 0).bind fun bt145=>(if bt143.1=0 then (if bt145.2=0 then ((wide_Join.f ((decide (x134000<0)) != (decide (x135000<0))) bt145.1 bt140.2).bind fun bt147=>(some (bt147.1,bt147.2.1,bt147.2.2))) else (some (0,0,10))) else (some (0,0,10)))))))
def times_Mul.f (k:Nat) (a0_0:Int) (a0_1:Int) (a1_0:Int) (a1_1:Int):Option (Int × Int × Int):=(wide_Abs.f a0_0 a0_1).bind fun bt136=>((wide_Abs.f a1_0 a1_1).bind fun bt138=>(if bt136.1=0 then (times_Mul.j0 k bt136.1 bt136.2 bt138.1 bt138.2 false a0_0 a0_1 a1_0 a1_1) else (times_Mul.j0 k bt136.1 bt136.2 bt138.1 bt138.2 (bt138.1 != 0) a0_0 a0_1 a1_0 a1_1)))
theorem times_Mul.mono_l:∀ k,(∀ y0 y1 y2 y3 y4 y5 y6 y7 y8,LeO (times_Mul.j0 k y0 y1 y2 y3 y4 y5 y6 y7 y8) (times_Mul.j0 (k+1) y0 y1 y2 y3 y4 y5 y6 y7 y8))
 |0=>fun _ _ _ _ _ _ _ _ _ r h=>by simp [times_Mul.j0] at h
 |k+1=>by
  have ih0:=times_Mul.mono_l k
  ·intro y0 y1 y2 y3 y4 y5 y6 y7 y8
   unfold times_Mul.j0
   repeat' first
   |(with_reducible exact ih0 _ _ _ _ _ _ _ _ _)
   |(with_reducible exact LeO.refl _)
   |(with_reducible exact LeO.none _)
   |(with_reducible refine LeO.ite ?_ ?_)
   |(with_reducible refine LeO.bind ?_ (fun _=>?_))
   |exact ih0 _ _ _ _ _ _ _ _ _
   |exact LeO.none _
   |refine LeO.ite ?_ ?_
   |refine LeO.bind ?_ (fun _=>?_)
theorem times_Mul.mono:∀ a0 a1 a2 a3 k,LeO (times_Mul.f k a0 a1 a2 a3) (times_Mul.f (k+1) a0 a1 a2 a3):=by
 intro a0 a1 a2 a3 k
 have ih0:=times_Mul.mono_l k
 unfold times_Mul.f
 repeat' first
   |(with_reducible exact ih0 _ _ _ _ _ _ _ _ _)
   |(with_reducible exact LeO.refl _)
   |(with_reducible exact LeO.none _)
   |(with_reducible refine LeO.ite ?_ ?_)
   |(with_reducible refine LeO.bind ?_ (fun _=>?_))
   |exact ih0 _ _ _ _ _ _ _ _ _
   |exact LeO.none _
   |refine LeO.ite ?_ ?_
   |refine LeO.bind ?_ (fun _=>?_)
set_option maxHeartbeats 8000000 in
set_option maxRecDepth 100000 in
theorem times_Mul.calls (k:Nat) (a0_0:Int) (a0_1:Int) (a1_0:Int) (a1_1:Int) (r1:Int) (r2:Int) (r3:Int) (w:World) (h:times_Mul.f k a0_0 a0_1 a1_0 a1_1=some (r1,r2,r3)) :
  Calls Tryz.prog 21 #[.agg #[.int .i64 a0_0,.int .u64 a0_1],.agg #[.int .i64 a1_0,.int .u64 a1_1]] w fun e w'=>e = .returned (.tuple #[.agg #[.int .i64 r1,.int .u64 r2],.int .i64 r3])∧Below w.heap.size w w':=by
 have hu32:=Tryz.underlying32
 have HB:=aK_ (Below.refl w.heap.size w)
 have H:((wide_Abs.f a0_0 a0_1).bind fun bt136=>((wide_Abs.f a1_0 a1_1).bind fun bt138=>(if bt136.1=0 then (times_Mul.j0 k bt136.1 bt136.2 bt138.1 bt138.2 false a0_0 a0_1 a1_0 a1_1) else (times_Mul.j0 k bt136.1 bt136.2 bt138.1 bt138.2 (bt138.1 != 0) a0_0 a0_1 a1_0 a1_1))))=some (r1,r2,r3):=h
 clear h
 replace H:=Option.bind_eq_some_iff.mp H
 obtain ⟨⟨t136,t137⟩,A30,H⟩:=H
 replace H:((wide_Abs.f a1_0 a1_1).bind fun bt138=>(if t136=0 then (times_Mul.j0 k t136 t137 bt138.1 bt138.2 false a0_0 a0_1 a1_0 a1_1) else (times_Mul.j0 k t136 t137 bt138.1 bt138.2 (bt138.1 != 0) a0_0 a0_1 a1_0 a1_1)))=some (r1,r2,r3):=H
 have A3:=aK_ A30
 clear A30
 replace H:=Option.bind_eq_some_iff.mp H
 obtain ⟨⟨t138,t139⟩,A40,H⟩:=H
 replace H:(if t136=0 then (times_Mul.j0 k t136 t137 t138 t139 false a0_0 a0_1 a1_0 a1_1) else (times_Mul.j0 k t136 t137 t138 t139 (t138 != 0) a0_0 a0_1 a1_0 a1_1))=some (r1,r2,r3):=H
 have A4:=aK_ A40
 clear A40
 have HC5:=aK_ H
 clear H
 go_enter Tryz.func21,Tryz.ntmps21
 go_upto_region 3 with (first|((with_reducible refine zAc (N:=2) rfl ?_);refine zAX ?hg (N:=2) ?hd (cs:=#[.int .i64 a0_0,.int .u64 a0_1]) (t:=32) ?hr ?_;(case hd=>rfl);(case hg=>rfl);(case hr=>first|(go_simp;done)|(go_simp;rfl));intro gb133 hg w6 hbox hb;have n0_:=aK_ (zAE (aH_ HB.out) hb);have n1_:=aK_ (hbox);have n2_:=aK_ ((by rw [hg];exact (zAF (aH_ HB.out)):w.heap.size≤gb133));have n3_:=aK_ ((by rw [hg];exact (zAF (aH_ HB.out)):w.heap.size≤gb133));clear HB;have HB:=n0_;have BK133:=n1_;have GW133:=n2_;have GE133:=n3_;clear n0_ n1_ n2_ n3_;clear hb hbox hg)|((with_reducible refine zAc (N:=3) rfl ?_);refine zAX ?hg (N:=3) ?hd (cs:=#[.int .i64 a1_0,.int .u64 a1_1]) (t:=32) ?hr ?_;(case hd=>rfl);(case hg=>rfl);(case hr=>first|(go_simp;done)|(go_simp;rfl));intro gb134 hg w7 hbox hb;have n0_:=aK_ (zAC (g:=gb133) (o:=.cells #[.int .i64 a0_0,.int .u64 a0_1] 32 (0,0)) (aB_ BK133.out) hb);have n1_:=aK_ (zAE (aI_ HB.out GE133.out) hb);have n2_:=aK_ (hbox);have n3_:=aK_ ((by rw [hg];exact (zAF (aI_ HB.out GE133.out)):w.heap.size≤gb134));have n4_:=aK_ ((by rw [hg];exact (zAF (aI_ HB.out GE133.out)):w.heap.size≤gb134));have n5_:=aK_ ((by rw [hg];exact Nat.ne_of_lt (zAK (g:=gb133) (o:=.cells #[.int .i64 a0_0,.int .u64 a0_1] 32 (0,0)) (aB_ BK133.out)):gb133≠gb134));have n6_:=aK_ ((by rw [hg];exact Nat.ne_of_gt (zAK (g:=gb133) (o:=.cells #[.int .i64 a0_0,.int .u64 a0_1] 32 (0,0)) (aB_ BK133.out)):gb134≠gb133));clear BK133;clear HB;have BK133:=n0_;have HB:=n1_;have BK134:=n2_;have GW134:=n3_;have GE134:=n4_;have NB133_134:=n5_;have NB134_133:=n6_;clear n0_ n1_ n2_ n3_ n4_ n5_ n6_;clear hb hbox hg)|((with_reducible refine zAc (N:=4) rfl ?_);refine zAX ?hg (N:=4) ?hd (cs:=#[.int .i64 0,.int .u64 0]) (t:=32) ?hr ?_;(case hd=>rfl);(case hg=>rfl);(case hr=>first|(go_simp;done)|(go_simp;rfl));intro gb135 hg w8 hbox hb;have n0_:=aK_ (zAC (g:=gb133) (o:=.cells #[.int .i64 a0_0,.int .u64 a0_1] 32 (0,0)) (aB_ BK133.out) hb);have n1_:=aK_ (zAC (g:=gb134) (o:=.cells #[.int .i64 a1_0,.int .u64 a1_1] 32 (0,0)) (aB_ BK134.out) hb);have n2_:=aK_ (zAE (aJ_ HB.out GE133.out GE134.out) hb);have n3_:=aK_ (hbox);have n4_:=aK_ ((by rw [hg];exact (zAF (aJ_ HB.out GE133.out GE134.out)):w.heap.size≤gb135));have n5_:=aK_ ((by rw [hg];exact (zAF (aJ_ HB.out GE133.out GE134.out)):w.heap.size≤gb135));have n6_:=aK_ ((by rw [hg];exact Nat.ne_of_lt (zAK (g:=gb133) (o:=.cells #[.int .i64 a0_0,.int .u64 a0_1] 32 (0,0)) (aB_ BK133.out)):gb133≠gb135));have n7_:=aK_ ((by rw [hg];exact Nat.ne_of_gt (zAK (g:=gb133) (o:=.cells #[.int .i64 a0_0,.int .u64 a0_1] 32 (0,0)) (aB_ BK133.out)):gb135≠gb133));have n8_:=aK_ ((by rw [hg];exact Nat.ne_of_lt (zAK (g:=gb134) (o:=.cells #[.int .i64 a1_0,.int .u64 a1_1] 32 (0,0)) (aB_ BK134.out)):gb134≠gb135));have n9_:=aK_ ((by rw [hg];exact Nat.ne_of_gt (zAK (g:=gb134) (o:=.cells #[.int .i64 a1_0,.int .u64 a1_1] 32 (0,0)) (aB_ BK134.out)):gb135≠gb134));clear BK133;clear BK134;clear HB;have BK133:=n0_;have BK134:=n1_;have HB:=n2_;have BK135:=n3_;have GW135:=n4_;have GE135:=n5_;have NB133_135:=n6_;have NB135_133:=n7_;have NB134_135:=n8_;have NB135_134:=n9_;clear n0_ n1_ n2_ n3_ n4_ n5_ n6_ n7_ n8_ n9_;clear hb hbox hg;have hnb9:=NB133_134.out;have hnc9:=NB134_133.out;have hnb10:=NB133_135.out;have hnc10:=NB135_133.out;have hcz11_0:w8.cell? ⟨gb133,0,none⟩=some (.int .i64 a0_0):=(zAB BK133.out 0).trans rfl;have hcz11_1:w8.cell? ⟨gb133,1,none⟩=some (.int .u64 a0_1):=(zAB BK133.out 1).trans rfl;have hfz11_0:=zAA BK133.out 0;have hfz11_1:=zAA BK133.out 1)|((with_reducible refine zAM (f:=26) rfl ?_);refine goesL_ (some 17) rfl rfl Tryz.func26 (by kernel_rfl) rfl #[.agg #[.int .i64 a0_0,.int .u64 a0_1]] rfl aM_ ?_;(with_reducible refine (wide_Abs.calls a0_0 a0_1 t136 t137 _ A3.out).mono ?_);rintro e w12 ⟨rfl,hb⟩;refine ⟨_,rfl,?_⟩;have n0_:=aK_ (zAC (g:=gb133) (o:=.cells #[.int .i64 a0_0,.int .u64 a0_1] 32 (0,0)) (aB_ BK133.out) hb);have n1_:=aK_ (zAC (g:=gb134) (o:=.cells #[.int .i64 a1_0,.int .u64 a1_1] 32 (0,0)) (aB_ BK134.out) hb);have n2_:=aK_ (zAC (g:=gb135) (o:=.cells #[.int .i64 0,.int .u64 0] 32 (0,0)) (aB_ BK135.out) hb);have n3_:=aK_ (zAE (aQ_ HB.out GE133.out GE134.out GE135.out) hb);clear BK133;clear BK134;clear BK135;clear HB;have BK133:=n0_;have BK134:=n1_;have BK135:=n2_;have HB:=n3_;clear n0_ n1_ n2_ n3_;(try clear hb);(try clear hb2);(try clear hk);(try clear hi);have hnb13:=NB134_135.out;have hnc13:=NB135_134.out;have hcz14_0:w12.cell? ⟨gb134,0,none⟩=some (.int .i64 a1_0):=(zAB BK134.out 0).trans rfl;have hcz14_1:w12.cell? ⟨gb134,1,none⟩=some (.int .u64 a1_1):=(zAB BK134.out 1).trans rfl;have hfz14_0:=zAA BK134.out 0;have hfz14_1:=zAA BK134.out 1)|((with_reducible refine zAM (f:=26) rfl ?_);refine goesL_ (some 22) rfl rfl Tryz.func26 (by kernel_rfl) rfl #[.agg #[.int .i64 a1_0,.int .u64 a1_1]] rfl aM_ ?_;(with_reducible refine (wide_Abs.calls a1_0 a1_1 t138 t139 _ A4.out).mono ?_);rintro e w15 ⟨rfl,hb⟩;refine ⟨_,rfl,?_⟩;have n0_:=aK_ (zAC (g:=gb133) (o:=.cells #[.int .i64 a0_0,.int .u64 a0_1] 32 (0,0)) (aB_ BK133.out) hb);have n1_:=aK_ (zAC (g:=gb134) (o:=.cells #[.int .i64 a1_0,.int .u64 a1_1] 32 (0,0)) (aB_ BK134.out) hb);have n2_:=aK_ (zAC (g:=gb135) (o:=.cells #[.int .i64 0,.int .u64 0] 32 (0,0)) (aB_ BK135.out) hb);have n3_:=aK_ (zAE (aQ_ HB.out GE133.out GE134.out GE135.out) hb);clear BK133;clear BK134;clear BK135;clear HB;have BK133:=n0_;have BK134:=n1_;have BK135:=n2_;have HB:=n3_;clear n0_ n1_ n2_ n3_;(try clear hb);(try clear hb2);(try clear hk);(try clear hi)))
 (try simp only [Act.put,List.setIfInBounds_toArray,List.set_cons_zero,List.set_cons_succ])
 go_cut [30] (fun v30 wc=>∃ (kq:Nat) (x30_4:Bool),v30 = .bool x30_4∧zAG (times_Mul.j0 kq t136 t137 t138 t139 x30_4 a0_0 a0_1 a1_0 a1_1=some (r1,r2,r3))∧zAG (kq≤k)∧zAG (wc.heap[gb133]?=some (.cells #[.int .i64 a0_0,.int .u64 a0_1] 32 (0,0)))∧zAG (wc.heap[gb134]?=some (.cells #[.int .i64 a1_0,.int .u64 a1_1] 32 (0,0)))∧zAG (wc.heap[gb135]?=some (.cells #[.int .i64 0,.int .u64 0] 32 (0,0)))∧zAG (Below w.heap.size w wc))
 case first =>
  have H:=HC5.out
  clear HC5
  by_cases c16:t136=0
  rotate_left
  ·rw [if_neg c16] at H
   have c16b0:(t136 == 0)=false:=beq_eq_false_iff_ne.mpr c16
   have c16b1:(t136 != 0)=true:=bne_iff_ne.mpr c16
   (first|rw [c16b0]|(simp only [zAO,zAR];rw [c16b0])|skip)
   have H':=aK_ H
   clear H
   go_wp2
   go_meet
   case rel=>exact ⟨_,((t138 != 0)),aS2_,H',⟨by first|omega|exact Nat.le_refl _⟩,⟨aB_ BK133.out⟩,⟨aB_ BK134.out⟩,⟨aB_ BK135.out⟩,⟨aQ_ HB.out GE133.out GE134.out GE135.out⟩⟩
  rw [if_pos c16] at H
  have c16b0:(t136 == 0)=true:=beq_iff_eq.mpr c16
  have c16b1:(t136 != 0)=false:=bne_eq_false_iff_eq.mpr c16
  clear c16
  (first|rw [c16b0]|(simp only [zAO,zAR];rw [c16b0])|skip)
  have H':=aK_ H
  clear H
  go_wp2
  go_meet
  case rel=>exact ⟨_,(false),aS2_,H',⟨by first|omega|exact Nat.le_refl _⟩,⟨aB_ BK133.out⟩,⟨aB_ BK134.out⟩,⟨aB_ BK135.out⟩,⟨aQ_ HB.out GE133.out GE134.out GE135.out⟩⟩
 clear HC5
 try clear c1
 try clear c2
 try clear p2
 try clear c9
 try clear c10
 try clear c13
 try clear c16
 try clear c16b0
 try clear c16b1
 try clear hcz11_0
 try clear hcz11_1
 try clear hcz14_0
 try clear hcz14_1
 try clear hfz11_0
 try clear hfz11_1
 try clear hfz14_0
 try clear hfz14_1
 obtain ⟨kq,x30_4,rfl,HA,HJ4,BK133,BK134,BK135,HB⟩:=hcut
 cases kq with
 |zero=>exact absurd HA.out (by simp [times_Mul.j0])
 |succ kj4=>?_
 have H:=HA.out
 clear HA
 simp only [times_Mul.j0] at H
 by_cases c17:x30_4=true
 ·subst c17
  have H1:(some (0,0,10))=some (r1,r2,r3):=by rw [if_pos rfl] at H;exact H
  clear H
  have H:=H1
  clear H1
  simp only [Option.some.injEq,Prod.mk.injEq] at H
  obtain ⟨rfl,rfl,rfl⟩:=H
  have hnb18:=NB135_133.out
  have hnc18:=NB133_135.out
  have hnb19:=NB135_134.out
  have hnc19:=NB134_135.out
  have hcz20_0:wc.cell? ⟨gb135,0,none⟩=some (.int .i64 0):=(zAB BK135.out 0).trans rfl
  have hcz20_1:wc.cell? ⟨gb135,1,none⟩=some (.int .u64 0):=(zAB BK135.out 1).trans rfl
  have hfz20_0:=zAA BK135.out 0
  have hfz20_1:=zAA BK135.out 1
  go_wp2
  refine bodyPost_ret (results_ct rfl _ _ gb135 32 #[.int .i64 0,.int .u64 0] (0,0) _ rfl (by refine aB_ ?_;refine zAW (cs:=#[.int .i64 0,.int .u64 0]) ?_ 1 _ rfl;refine aB_ ?_;refine zAW (cs:=#[.int .i64 0,.int .u64 0]) ?_ 0 _ rfl;refine aB_ ?_;exact BK135.out) Tryz.underlying32 rfl (by kernel_rfl)) rfl ?_
  exact ⟨by first|rfl|(simp [zAP,zAQ] <;> rfl)|(simp [*,zAP,zAQ] <;> rfl),aQ_ HB.out GE133.out GE134.out GE135.out⟩
 replace c17:=Bool.eq_false_iff.mpr c17
 subst c17
 have H1:((bits_Mul64.f t137 t139).bind fun bt140=>((times_pick.f (t136 != 0) t139 t137).bind fun t142=>((bits_Mul64.f (Go.bits .or .u64 t136 t138) t142).bind fun bt143=>((bits_Add64.f bt140.1 bt143.2 0).bind fun bt145=>(if bt143.1=0 then (if bt145.2=0 then ((wide_Join.f ((decide (a0_0<0)) != (decide (a1_0<0))) bt145.1 bt140.2).bind fun bt147=>(some (bt147.1,bt147.2.1,bt147.2.2))) else (some (0,0,10))) else (some (0,0,10)))))))=some (r1,r2,r3):=by rw [if_neg (show ¬ (false=true) by decide)] at H;exact H
 clear H
 have H:=H1
 clear H1
 replace H:=Option.bind_eq_some_iff.mp H
 obtain ⟨⟨t140,t141⟩,A210,H⟩:=H
 replace H:((times_pick.f (t136 != 0) t139 t137).bind fun t142=>((bits_Mul64.f (Go.bits .or .u64 t136 t138) t142).bind fun bt143=>((bits_Add64.f t140 bt143.2 0).bind fun bt145=>(if bt143.1=0 then (if bt145.2=0 then ((wide_Join.f ((decide (a0_0<0)) != (decide (a1_0<0))) bt145.1 t141).bind fun bt147=>(some (bt147.1,bt147.2.1,bt147.2.2))) else (some (0,0,10))) else (some (0,0,10))))))=some (r1,r2,r3):=H
 have A21:=aK_ A210
 clear A210
 replace H:=Option.bind_eq_some_iff.mp H
 obtain ⟨t142,A220,H⟩:=H
 replace H:((bits_Mul64.f (Go.bits .or .u64 t136 t138) t142).bind fun bt143=>((bits_Add64.f t140 bt143.2 0).bind fun bt145=>(if bt143.1=0 then (if bt145.2=0 then ((wide_Join.f ((decide (a0_0<0)) != (decide (a1_0<0))) bt145.1 t141).bind fun bt147=>(some (bt147.1,bt147.2.1,bt147.2.2))) else (some (0,0,10))) else (some (0,0,10)))))=some (r1,r2,r3):=H
 have A22:=aK_ A220
 clear A220
 replace H:=Option.bind_eq_some_iff.mp H
 obtain ⟨⟨t143,t144⟩,A230,H⟩:=H
 replace H:((bits_Add64.f t140 t144 0).bind fun bt145=>(if t143=0 then (if bt145.2=0 then ((wide_Join.f ((decide (a0_0<0)) != (decide (a1_0<0))) bt145.1 t141).bind fun bt147=>(some (bt147.1,bt147.2.1,bt147.2.2))) else (some (0,0,10))) else (some (0,0,10))))=some (r1,r2,r3):=H
 have A23:=aK_ A230
 clear A230
 replace H:=Option.bind_eq_some_iff.mp H
 obtain ⟨⟨t145,t146⟩,A240,H⟩:=H
 replace H:(if t143=0 then (if t146=0 then ((wide_Join.f ((decide (a0_0<0)) != (decide (a1_0<0))) t145 t141).bind fun bt147=>(some (bt147.1,bt147.2.1,bt147.2.2))) else (some (0,0,10))) else (some (0,0,10)))=some (r1,r2,r3):=H
 have A24:=aK_ A240
 clear A240
 by_cases c25:t143=0
 rotate_left
 ·rw [if_neg c25] at H
  have c25b0:(t143 == 0)=false:=beq_eq_false_iff_ne.mpr c25
  have c25b1:(t143 != 0)=true:=bne_iff_ne.mpr c25
  simp only [Option.some.injEq,Prod.mk.injEq] at H
  obtain ⟨rfl,rfl,rfl⟩:=H
  go_wp2_with (first|((with_reducible refine zAM (f:=44) rfl ?_);refine goesL_ (some 35) rfl rfl Tryz.func44 (by kernel_rfl) rfl #[.int .u64 t137,.int .u64 t139] rfl aM_ ?_;(with_reducible refine (bits_Mul64.calls t137 t139 t140 t141 _ A21.out).mono ?_);rintro e w' ⟨rfl,⟨nd,rfl⟩⟩;refine ⟨_,rfl,?_⟩;(try (rw [drewN_self wc];generalize hq_:World.drewN wc _=wc;have n0_:zAG (wc.heap[gb133]?=some (.cells #[.int .i64 a0_0,.int .u64 a0_1] 32 (0,0))):=⟨by rw [← hq_];exact (aB_ BK133.out)⟩;have n1_:zAG (wc.heap[gb134]?=some (.cells #[.int .i64 a1_0,.int .u64 a1_1] 32 (0,0))):=⟨by rw [← hq_];exact (aB_ BK134.out)⟩;have n2_:zAG (wc.heap[gb135]?=some (.cells #[.int .i64 0,.int .u64 0] 32 (0,0))):=⟨by rw [← hq_];exact (aB_ BK135.out)⟩;have n3_:zAG (Below w.heap.size w wc):=⟨by rw [← hq_];exact (aQ_ HB.out GE133.out GE134.out GE135.out)⟩;clear BK133 BK134 BK135 HB hq_;have BK133:=n0_;have BK134:=n1_;have BK135:=n2_;have HB:=n3_;clear n0_ n1_ n2_ n3_)))|((with_reducible refine zAM (f:=45) rfl ?_);refine goesL_ (some 46) rfl rfl Tryz.func45 (by kernel_rfl) rfl #[.bool (t136 != 0),.int .u64 t139,.int .u64 t137] rfl aM_ ?_;(with_reducible refine (times_pick.calls (t136 != 0) t139 t137 t142 _ A22.out).mono ?_);rintro e w' ⟨rfl,⟨nd,rfl⟩⟩;refine ⟨_,rfl,?_⟩;(try (rw [drewN_self wc];generalize hq_:World.drewN wc _=wc;have n0_:zAG (wc.heap[gb133]?=some (.cells #[.int .i64 a0_0,.int .u64 a0_1] 32 (0,0))):=⟨by rw [← hq_];exact (aB_ BK133.out)⟩;have n1_:zAG (wc.heap[gb134]?=some (.cells #[.int .i64 a1_0,.int .u64 a1_1] 32 (0,0))):=⟨by rw [← hq_];exact (aB_ BK134.out)⟩;have n2_:zAG (wc.heap[gb135]?=some (.cells #[.int .i64 0,.int .u64 0] 32 (0,0))):=⟨by rw [← hq_];exact (aB_ BK135.out)⟩;have n3_:zAG (Below w.heap.size w wc):=⟨by rw [← hq_];exact (aQ_ HB.out GE133.out GE134.out GE135.out)⟩;clear BK133 BK134 BK135 HB hq_;have BK133:=n0_;have BK134:=n1_;have BK135:=n2_;have HB:=n3_;clear n0_ n1_ n2_ n3_)))|((with_reducible refine zAM (f:=44) rfl ?_);refine goesL_ (some 47) rfl rfl Tryz.func44 (by kernel_rfl) rfl #[.int .u64 (Go.bits .or .u64 t136 t138),.int .u64 t142] rfl aM_ ?_;(with_reducible refine (bits_Mul64.calls (Go.bits .or .u64 t136 t138) t142 t143 t144 _ A23.out).mono ?_);rintro e w' ⟨rfl,⟨nd,rfl⟩⟩;refine ⟨_,rfl,?_⟩;(try (rw [drewN_self wc];generalize hq_:World.drewN wc _=wc;have n0_:zAG (wc.heap[gb133]?=some (.cells #[.int .i64 a0_0,.int .u64 a0_1] 32 (0,0))):=⟨by rw [← hq_];exact (aB_ BK133.out)⟩;have n1_:zAG (wc.heap[gb134]?=some (.cells #[.int .i64 a1_0,.int .u64 a1_1] 32 (0,0))):=⟨by rw [← hq_];exact (aB_ BK134.out)⟩;have n2_:zAG (wc.heap[gb135]?=some (.cells #[.int .i64 0,.int .u64 0] 32 (0,0))):=⟨by rw [← hq_];exact (aB_ BK135.out)⟩;have n3_:zAG (Below w.heap.size w wc):=⟨by rw [← hq_];exact (aQ_ HB.out GE133.out GE134.out GE135.out)⟩;clear BK133 BK134 BK135 HB hq_;have BK133:=n0_;have BK134:=n1_;have BK135:=n2_;have HB:=n3_;clear n0_ n1_ n2_ n3_)))|((with_reducible refine zAM (f:=46) rfl ?_);refine goesX_ (some 53) rfl rfl Tryz.func46 (by kernel_rfl) rfl #[.int .u64 t140,.int .u64 t144,.int .u64 0] rfl aM_ ?_;(with_reducible refine (bits_Add64.calls t140 t144 0 t145 t146 _ A24.out).mono ?_);rintro e w' ⟨rfl,⟨nd,rfl⟩⟩;refine ⟨_,rfl,?_⟩;(try (rw [drewN_self wc];generalize hq_:World.drewN wc _=wc;have n0_:zAG (wc.heap[gb133]?=some (.cells #[.int .i64 a0_0,.int .u64 a0_1] 32 (0,0))):=⟨by rw [← hq_];exact (aB_ BK133.out)⟩;have n1_:zAG (wc.heap[gb134]?=some (.cells #[.int .i64 a1_0,.int .u64 a1_1] 32 (0,0))):=⟨by rw [← hq_];exact (aB_ BK134.out)⟩;have n2_:zAG (wc.heap[gb135]?=some (.cells #[.int .i64 0,.int .u64 0] 32 (0,0))):=⟨by rw [← hq_];exact (aB_ BK135.out)⟩;have n3_:zAG (Below w.heap.size w wc):=⟨by rw [← hq_];exact (aQ_ HB.out GE133.out GE134.out GE135.out)⟩;clear BK133 BK134 BK135 HB hq_;have BK133:=n0_;have BK134:=n1_;have BK135:=n2_;have HB:=n3_;clear n0_ n1_ n2_ n3_));have hnb38:=NB135_133.out;have hnc38:=NB133_135.out;have hnb39:=NB135_134.out;have hnc39:=NB134_135.out;have hcz40_0:wc.cell? ⟨gb135,0,none⟩=some (.int .i64 0):=(zAB BK135.out 0).trans rfl;have hcz40_1:wc.cell? ⟨gb135,1,none⟩=some (.int .u64 0):=(zAB BK135.out 1).trans rfl;have hfz40_0:=zAA BK135.out 0;have hfz40_1:=zAA BK135.out 1))
  refine bodyPost_ret (results_ct rfl _ _ gb135 32 #[.int .i64 0,.int .u64 0] (0,0) _ rfl (by refine aB_ ?_;refine zAW (cs:=#[.int .i64 0,.int .u64 0]) ?_ 1 _ rfl;refine aB_ ?_;refine zAW (cs:=#[.int .i64 0,.int .u64 0]) ?_ 0 _ rfl;refine aB_ ?_;exact BK135.out) Tryz.underlying32 rfl (by kernel_rfl)) rfl ?_
  exact ⟨by first|rfl|(simp [zAP,zAQ] <;> rfl)|(simp [*,zAP,zAQ] <;> rfl),aQ_ HB.out GE133.out GE134.out GE135.out⟩
 rw [if_pos c25] at H
 have c25b0:(t143 == 0)=true:=beq_iff_eq.mpr c25
 have c25b1:(t143 != 0)=false:=bne_eq_false_iff_eq.mpr c25
 clear c25
 by_cases c26:t146=0
 rotate_left
 ·rw [if_neg c26] at H
  have c26b0:(t146 == 0)=false:=beq_eq_false_iff_ne.mpr c26
  have c26b1:(t146 != 0)=true:=bne_iff_ne.mpr c26
  simp only [Option.some.injEq,Prod.mk.injEq] at H
  obtain ⟨rfl,rfl,rfl⟩:=H
  go_wp2_with (first|((with_reducible refine zAM (f:=44) rfl ?_);refine goesL_ (some 35) rfl rfl Tryz.func44 (by kernel_rfl) rfl #[.int .u64 t137,.int .u64 t139] rfl aM_ ?_;(with_reducible refine (bits_Mul64.calls t137 t139 t140 t141 _ A21.out).mono ?_);rintro e w' ⟨rfl,⟨nd,rfl⟩⟩;refine ⟨_,rfl,?_⟩;(try (rw [drewN_self wc];generalize hq_:World.drewN wc _=wc;have n0_:zAG (wc.heap[gb133]?=some (.cells #[.int .i64 a0_0,.int .u64 a0_1] 32 (0,0))):=⟨by rw [← hq_];exact (aB_ BK133.out)⟩;have n1_:zAG (wc.heap[gb134]?=some (.cells #[.int .i64 a1_0,.int .u64 a1_1] 32 (0,0))):=⟨by rw [← hq_];exact (aB_ BK134.out)⟩;have n2_:zAG (wc.heap[gb135]?=some (.cells #[.int .i64 0,.int .u64 0] 32 (0,0))):=⟨by rw [← hq_];exact (aB_ BK135.out)⟩;have n3_:zAG (Below w.heap.size w wc):=⟨by rw [← hq_];exact (aQ_ HB.out GE133.out GE134.out GE135.out)⟩;clear BK133 BK134 BK135 HB hq_;have BK133:=n0_;have BK134:=n1_;have BK135:=n2_;have HB:=n3_;clear n0_ n1_ n2_ n3_)))|((with_reducible refine zAM (f:=45) rfl ?_);refine goesL_ (some 46) rfl rfl Tryz.func45 (by kernel_rfl) rfl #[.bool (t136 != 0),.int .u64 t139,.int .u64 t137] rfl aM_ ?_;(with_reducible refine (times_pick.calls (t136 != 0) t139 t137 t142 _ A22.out).mono ?_);rintro e w' ⟨rfl,⟨nd,rfl⟩⟩;refine ⟨_,rfl,?_⟩;(try (rw [drewN_self wc];generalize hq_:World.drewN wc _=wc;have n0_:zAG (wc.heap[gb133]?=some (.cells #[.int .i64 a0_0,.int .u64 a0_1] 32 (0,0))):=⟨by rw [← hq_];exact (aB_ BK133.out)⟩;have n1_:zAG (wc.heap[gb134]?=some (.cells #[.int .i64 a1_0,.int .u64 a1_1] 32 (0,0))):=⟨by rw [← hq_];exact (aB_ BK134.out)⟩;have n2_:zAG (wc.heap[gb135]?=some (.cells #[.int .i64 0,.int .u64 0] 32 (0,0))):=⟨by rw [← hq_];exact (aB_ BK135.out)⟩;have n3_:zAG (Below w.heap.size w wc):=⟨by rw [← hq_];exact (aQ_ HB.out GE133.out GE134.out GE135.out)⟩;clear BK133 BK134 BK135 HB hq_;have BK133:=n0_;have BK134:=n1_;have BK135:=n2_;have HB:=n3_;clear n0_ n1_ n2_ n3_)))|((with_reducible refine zAM (f:=44) rfl ?_);refine goesL_ (some 47) rfl rfl Tryz.func44 (by kernel_rfl) rfl #[.int .u64 (Go.bits .or .u64 t136 t138),.int .u64 t142] rfl aM_ ?_;(with_reducible refine (bits_Mul64.calls (Go.bits .or .u64 t136 t138) t142 t143 t144 _ A23.out).mono ?_);rintro e w' ⟨rfl,⟨nd,rfl⟩⟩;refine ⟨_,rfl,?_⟩;(try (rw [drewN_self wc];generalize hq_:World.drewN wc _=wc;have n0_:zAG (wc.heap[gb133]?=some (.cells #[.int .i64 a0_0,.int .u64 a0_1] 32 (0,0))):=⟨by rw [← hq_];exact (aB_ BK133.out)⟩;have n1_:zAG (wc.heap[gb134]?=some (.cells #[.int .i64 a1_0,.int .u64 a1_1] 32 (0,0))):=⟨by rw [← hq_];exact (aB_ BK134.out)⟩;have n2_:zAG (wc.heap[gb135]?=some (.cells #[.int .i64 0,.int .u64 0] 32 (0,0))):=⟨by rw [← hq_];exact (aB_ BK135.out)⟩;have n3_:zAG (Below w.heap.size w wc):=⟨by rw [← hq_];exact (aQ_ HB.out GE133.out GE134.out GE135.out)⟩;clear BK133 BK134 BK135 HB hq_;have BK133:=n0_;have BK134:=n1_;have BK135:=n2_;have HB:=n3_;clear n0_ n1_ n2_ n3_)))|((with_reducible refine zAM (f:=46) rfl ?_);refine goesX_ (some 53) rfl rfl Tryz.func46 (by kernel_rfl) rfl #[.int .u64 t140,.int .u64 t144,.int .u64 0] rfl aM_ ?_;(with_reducible refine (bits_Add64.calls t140 t144 0 t145 t146 _ A24.out).mono ?_);rintro e w' ⟨rfl,⟨nd,rfl⟩⟩;refine ⟨_,rfl,?_⟩;(try (rw [drewN_self wc];generalize hq_:World.drewN wc _=wc;have n0_:zAG (wc.heap[gb133]?=some (.cells #[.int .i64 a0_0,.int .u64 a0_1] 32 (0,0))):=⟨by rw [← hq_];exact (aB_ BK133.out)⟩;have n1_:zAG (wc.heap[gb134]?=some (.cells #[.int .i64 a1_0,.int .u64 a1_1] 32 (0,0))):=⟨by rw [← hq_];exact (aB_ BK134.out)⟩;have n2_:zAG (wc.heap[gb135]?=some (.cells #[.int .i64 0,.int .u64 0] 32 (0,0))):=⟨by rw [← hq_];exact (aB_ BK135.out)⟩;have n3_:zAG (Below w.heap.size w wc):=⟨by rw [← hq_];exact (aQ_ HB.out GE133.out GE134.out GE135.out)⟩;clear BK133 BK134 BK135 HB hq_;have BK133:=n0_;have BK134:=n1_;have BK135:=n2_;have HB:=n3_;clear n0_ n1_ n2_ n3_));have hnb35:=NB135_133.out;have hnc35:=NB133_135.out;have hnb36:=NB135_134.out;have hnc36:=NB134_135.out;have hcz37_0:wc.cell? ⟨gb135,0,none⟩=some (.int .i64 0):=(zAB BK135.out 0).trans rfl;have hcz37_1:wc.cell? ⟨gb135,1,none⟩=some (.int .u64 0):=(zAB BK135.out 1).trans rfl;have hfz37_0:=zAA BK135.out 0;have hfz37_1:=zAA BK135.out 1))
  refine bodyPost_ret (results_ct rfl _ _ gb135 32 #[.int .i64 0,.int .u64 0] (0,0) _ rfl (by refine aB_ ?_;refine zAW (cs:=#[.int .i64 0,.int .u64 0]) ?_ 1 _ rfl;refine aB_ ?_;refine zAW (cs:=#[.int .i64 0,.int .u64 0]) ?_ 0 _ rfl;refine aB_ ?_;exact BK135.out) Tryz.underlying32 rfl (by kernel_rfl)) rfl ?_
  exact ⟨by first|rfl|(simp [zAP,zAQ] <;> rfl)|(simp [*,zAP,zAQ] <;> rfl),aQ_ HB.out GE133.out GE134.out GE135.out⟩
 rw [if_pos c26] at H
 have c26b0:(t146 == 0)=true:=beq_iff_eq.mpr c26
 have c26b1:(t146 != 0)=false:=bne_eq_false_iff_eq.mpr c26
 clear c26
 replace H:=Option.bind_eq_some_iff.mp H
 obtain ⟨⟨t147,t148,t149⟩,A270,H⟩:=H
 replace H:(some (t147,t148,t149))=some (r1,r2,r3):=H
 have A27:=aK_ A270
 clear A270
 simp only [Option.some.injEq,Prod.mk.injEq] at H
 obtain ⟨rfl,rfl,rfl⟩:=H
 go_wp2_with (first|((with_reducible refine zAM (f:=44) rfl ?_);refine goesL_ (some 35) rfl rfl Tryz.func44 (by kernel_rfl) rfl #[.int .u64 t137,.int .u64 t139] rfl aM_ ?_;(with_reducible refine (bits_Mul64.calls t137 t139 t140 t141 _ A21.out).mono ?_);rintro e w' ⟨rfl,⟨nd,rfl⟩⟩;refine ⟨_,rfl,?_⟩;(try (rw [drewN_self wc];generalize hq_:World.drewN wc _=wc;have n0_:zAG (wc.heap[gb133]?=some (.cells #[.int .i64 a0_0,.int .u64 a0_1] 32 (0,0))):=⟨by rw [← hq_];exact (aB_ BK133.out)⟩;have n1_:zAG (wc.heap[gb134]?=some (.cells #[.int .i64 a1_0,.int .u64 a1_1] 32 (0,0))):=⟨by rw [← hq_];exact (aB_ BK134.out)⟩;have n2_:zAG (wc.heap[gb135]?=some (.cells #[.int .i64 0,.int .u64 0] 32 (0,0))):=⟨by rw [← hq_];exact (aB_ BK135.out)⟩;have n3_:zAG (Below w.heap.size w wc):=⟨by rw [← hq_];exact (aQ_ HB.out GE133.out GE134.out GE135.out)⟩;clear BK133 BK134 BK135 HB hq_;have BK133:=n0_;have BK134:=n1_;have BK135:=n2_;have HB:=n3_;clear n0_ n1_ n2_ n3_)))|((with_reducible refine zAM (f:=45) rfl ?_);refine goesL_ (some 46) rfl rfl Tryz.func45 (by kernel_rfl) rfl #[.bool (t136 != 0),.int .u64 t139,.int .u64 t137] rfl aM_ ?_;(with_reducible refine (times_pick.calls (t136 != 0) t139 t137 t142 _ A22.out).mono ?_);rintro e w' ⟨rfl,⟨nd,rfl⟩⟩;refine ⟨_,rfl,?_⟩;(try (rw [drewN_self wc];generalize hq_:World.drewN wc _=wc;have n0_:zAG (wc.heap[gb133]?=some (.cells #[.int .i64 a0_0,.int .u64 a0_1] 32 (0,0))):=⟨by rw [← hq_];exact (aB_ BK133.out)⟩;have n1_:zAG (wc.heap[gb134]?=some (.cells #[.int .i64 a1_0,.int .u64 a1_1] 32 (0,0))):=⟨by rw [← hq_];exact (aB_ BK134.out)⟩;have n2_:zAG (wc.heap[gb135]?=some (.cells #[.int .i64 0,.int .u64 0] 32 (0,0))):=⟨by rw [← hq_];exact (aB_ BK135.out)⟩;have n3_:zAG (Below w.heap.size w wc):=⟨by rw [← hq_];exact (aQ_ HB.out GE133.out GE134.out GE135.out)⟩;clear BK133 BK134 BK135 HB hq_;have BK133:=n0_;have BK134:=n1_;have BK135:=n2_;have HB:=n3_;clear n0_ n1_ n2_ n3_)))|((with_reducible refine zAM (f:=44) rfl ?_);refine goesL_ (some 47) rfl rfl Tryz.func44 (by kernel_rfl) rfl #[.int .u64 (Go.bits .or .u64 t136 t138),.int .u64 t142] rfl aM_ ?_;(with_reducible refine (bits_Mul64.calls (Go.bits .or .u64 t136 t138) t142 t143 t144 _ A23.out).mono ?_);rintro e w' ⟨rfl,⟨nd,rfl⟩⟩;refine ⟨_,rfl,?_⟩;(try (rw [drewN_self wc];generalize hq_:World.drewN wc _=wc;have n0_:zAG (wc.heap[gb133]?=some (.cells #[.int .i64 a0_0,.int .u64 a0_1] 32 (0,0))):=⟨by rw [← hq_];exact (aB_ BK133.out)⟩;have n1_:zAG (wc.heap[gb134]?=some (.cells #[.int .i64 a1_0,.int .u64 a1_1] 32 (0,0))):=⟨by rw [← hq_];exact (aB_ BK134.out)⟩;have n2_:zAG (wc.heap[gb135]?=some (.cells #[.int .i64 0,.int .u64 0] 32 (0,0))):=⟨by rw [← hq_];exact (aB_ BK135.out)⟩;have n3_:zAG (Below w.heap.size w wc):=⟨by rw [← hq_];exact (aQ_ HB.out GE133.out GE134.out GE135.out)⟩;clear BK133 BK134 BK135 HB hq_;have BK133:=n0_;have BK134:=n1_;have BK135:=n2_;have HB:=n3_;clear n0_ n1_ n2_ n3_)))|((with_reducible refine zAM (f:=46) rfl ?_);refine goesX_ (some 53) rfl rfl Tryz.func46 (by kernel_rfl) rfl #[.int .u64 t140,.int .u64 t144,.int .u64 0] rfl aM_ ?_;(with_reducible refine (bits_Add64.calls t140 t144 0 t145 t146 _ A24.out).mono ?_);rintro e w' ⟨rfl,⟨nd,rfl⟩⟩;refine ⟨_,rfl,?_⟩;(try (rw [drewN_self wc];generalize hq_:World.drewN wc _=wc;have n0_:zAG (wc.heap[gb133]?=some (.cells #[.int .i64 a0_0,.int .u64 a0_1] 32 (0,0))):=⟨by rw [← hq_];exact (aB_ BK133.out)⟩;have n1_:zAG (wc.heap[gb134]?=some (.cells #[.int .i64 a1_0,.int .u64 a1_1] 32 (0,0))):=⟨by rw [← hq_];exact (aB_ BK134.out)⟩;have n2_:zAG (wc.heap[gb135]?=some (.cells #[.int .i64 0,.int .u64 0] 32 (0,0))):=⟨by rw [← hq_];exact (aB_ BK135.out)⟩;have n3_:zAG (Below w.heap.size w wc):=⟨by rw [← hq_];exact (aQ_ HB.out GE133.out GE134.out GE135.out)⟩;clear BK133 BK134 BK135 HB hq_;have BK133:=n0_;have BK134:=n1_;have BK135:=n2_;have HB:=n3_;clear n0_ n1_ n2_ n3_));have hnb28:=NB133_134.out;have hnc28:=NB134_133.out;have hnb29:=NB133_135.out;have hnc29:=NB135_133.out;have hcz30_0:wc.cell? ⟨gb133,0,none⟩=some (.int .i64 a0_0):=(zAB BK133.out 0).trans rfl;have hcz30_1:wc.cell? ⟨gb133,1,none⟩=some (.int .u64 a0_1):=(zAB BK133.out 1).trans rfl;have hfz30_0:=zAA BK133.out 0;have hfz30_1:=zAA BK133.out 1;have hnb31:=NB134_135.out;have hnc31:=NB135_134.out;have hcz32_0:wc.cell? ⟨gb134,0,none⟩=some (.int .i64 a1_0):=(zAB BK134.out 0).trans rfl;have hcz32_1:wc.cell? ⟨gb134,1,none⟩=some (.int .u64 a1_1):=(zAB BK134.out 1).trans rfl;have hfz32_0:=zAA BK134.out 0;have hfz32_1:=zAA BK134.out 1)|((with_reducible refine zAM (f:=47) rfl ?_);refine goesL_ (some 72) rfl rfl Tryz.func47 (by kernel_rfl) rfl #[.bool ((decide (a0_0<0)) != (decide (a1_0<0))),.int .u64 t145,.int .u64 t141] rfl aM_ ?_;(with_reducible refine (wide_Join.calls ((decide (a0_0<0)) != (decide (a1_0<0))) t145 t141 t147 t148 t149 _ A27.out).mono ?_);rintro e w33 ⟨rfl,hb⟩;refine ⟨_,rfl,?_⟩;have n0_:=aK_ (zAC (g:=gb133) (o:=.cells #[.int .i64 a0_0,.int .u64 a0_1] 32 (0,0)) (aB_ BK133.out) hb);have n1_:=aK_ (zAC (g:=gb134) (o:=.cells #[.int .i64 a1_0,.int .u64 a1_1] 32 (0,0)) (aB_ BK134.out) hb);have n2_:=aK_ (zAC (g:=gb135) (o:=.cells #[.int .i64 0,.int .u64 0] 32 (0,0)) (aB_ BK135.out) hb);have n3_:=aK_ (zAE (aQ_ HB.out GE133.out GE134.out GE135.out) hb);clear BK133;clear BK134;clear BK135;clear HB;have BK133:=n0_;have BK134:=n1_;have BK135:=n2_;have HB:=n3_;clear n0_ n1_ n2_ n3_;(try clear hb);(try clear hb2);(try clear hk);(try clear hi);have hcz34_0:w33.cell? ⟨gb135,0,none⟩=some (.int .i64 0):=(zAB BK135.out 0).trans rfl;have hcz34_1:w33.cell? ⟨gb135,1,none⟩=some (.int .u64 0):=(zAB BK135.out 1).trans rfl;have hfz34_0:=zAA BK135.out 0;have hfz34_1:=zAA BK135.out 1))
 refine bodyPost_ret (results_ct rfl _ _ gb135 32 #[.int .i64 t147,.int .u64 t148] (0,0) _ rfl (by refine aB_ ?_;refine zAW (cs:=#[.int .i64 t147,.int .u64 0]) ?_ 1 _ rfl;refine aB_ ?_;refine zAW (cs:=#[.int .i64 0,.int .u64 0]) ?_ 0 _ rfl;refine aB_ ?_;exact BK135.out) Tryz.underlying32 rfl (by kernel_rfl)) rfl ?_
 exact ⟨by first|rfl|(simp [zAP,zAQ] <;> rfl)|(simp [*,zAP,zAQ] <;> rfl),aQ_ HB.out GE133.out GE134.out GE135.out⟩
end Go.Proofs.YtkikekiokclmdaaGreatDoor.S

namespace Go.Proofs.YtkikekiokclmdaaGreatDoor.S
open Go.RowKit Go.Proofs.YtkikekiokclmdaaGreatDoorW.PrintWords Go.Proofs.YtkikekiokclmdaaGreatDoorW.PrintLast Go.Proofs.YtkikekiokclmdaaGreatDoorW.PrintMore
attribute [local go_sem] max2_int min2_int max_two min_two max_three min_three max_four min_four
def wide_Add.f (a0_0:Int) (a0_1:Int) (a1_0:Int) (a1_1:Int):Option (Int × Int × Int):=(bits_Add64.f a0_1 a1_1 0).bind fun bt153=>((bits_Add64.f (IntKind.u64.wrap (a0_0)) (IntKind.u64.wrap (a1_0)) bt153.2).bind fun bt155=>(if ((decide (a0_0<0)) == (decide (a1_0<0)))=true then (if ((decide ((wrap64 (bt155.1))<0)) != (decide (a0_0<0)))=true then (some (0,0,10)) else (some (wrap64 (bt155.1),bt153.1,0))) else (some (wrap64 (bt155.1),bt153.1,0))))
set_option maxHeartbeats 8000000 in
set_option maxRecDepth 100000 in
theorem wide_Add.calls (a0_0:Int) (a0_1:Int) (a1_0:Int) (a1_1:Int) (r1:Int) (r2:Int) (r3:Int) (w:World) (h:wide_Add.f a0_0 a0_1 a1_0 a1_1=some (r1,r2,r3)) :
  Calls Tryz.prog 22 #[.agg #[.int .i64 a0_0,.int .u64 a0_1],.agg #[.int .i64 a1_0,.int .u64 a1_1]] w fun e w'=>e = .returned (.tuple #[.agg #[.int .i64 r1,.int .u64 r2],.int .i64 r3])∧Below w.heap.size w w':=by
 have hu32:=Tryz.underlying32
 have HB:=aK_ (Below.refl w.heap.size w)
 have H:((bits_Add64.f a0_1 a1_1 0).bind fun bt153=>((bits_Add64.f (IntKind.u64.wrap (a0_0)) (IntKind.u64.wrap (a1_0)) bt153.2).bind fun bt155=>(if ((decide (a0_0<0)) == (decide (a1_0<0)))=true then (if ((decide ((wrap64 (bt155.1))<0)) != (decide (a0_0<0)))=true then (some (0,0,10)) else (some (wrap64 (bt155.1),bt153.1,0))) else (some (wrap64 (bt155.1),bt153.1,0)))))=some (r1,r2,r3):=h
 clear h
 replace H:=Option.bind_eq_some_iff.mp H
 obtain ⟨⟨t153,t154⟩,A30,H⟩:=H
 replace H:((bits_Add64.f (IntKind.u64.wrap (a0_0)) (IntKind.u64.wrap (a1_0)) t154).bind fun bt155=>(if ((decide (a0_0<0)) == (decide (a1_0<0)))=true then (if ((decide ((wrap64 (bt155.1))<0)) != (decide (a0_0<0)))=true then (some (0,0,10)) else (some (wrap64 (bt155.1),t153,0))) else (some (wrap64 (bt155.1),t153,0))))=some (r1,r2,r3):=H
 have A3:=aK_ A30
 clear A30
 replace H:=Option.bind_eq_some_iff.mp H
 obtain ⟨⟨t155,t156⟩,A40,H⟩:=H
 replace H:(if ((decide (a0_0<0)) == (decide (a1_0<0)))=true then (if ((decide ((wrap64 (t155))<0)) != (decide (a0_0<0)))=true then (some (0,0,10)) else (some (wrap64 (t155),t153,0))) else (some (wrap64 (t155),t153,0)))=some (r1,r2,r3):=H
 have A4:=aK_ A40
 clear A40
 by_cases c5:((decide (a0_0<0)) == (decide (a1_0<0)))=true
 rotate_left
 ·rw [if_neg c5] at H
  have c5b0:((decide (a0_0<0)) == (decide (a1_0<0)))=false:=by simpa using c5
  (try (have c5b1:decide ((decide (a0_0<0))=(decide (a1_0<0)))=false:=by simpa using c5))
  (try (have c5b2:((decide (a0_0<0)) == (decide (a1_0<0)))=false:=by simpa using c5))
  (try (have c5b3 : ¬ ((decide (a0_0<0))=(decide (a1_0<0))):=by simpa using c5))
  clear c5
  simp only [Option.some.injEq,Prod.mk.injEq] at H
  obtain ⟨rfl,rfl,rfl⟩:=H
  go_enter Tryz.func22,Tryz.ntmps22
  go_wp2_with (first|((with_reducible refine zAc (N:=2) rfl ?_);refine zAX ?hg (N:=2) ?hd (cs:=#[.int .i64 a0_0,.int .u64 a0_1]) (t:=32) ?hr ?_;(case hd=>rfl);(case hg=>rfl);(case hr=>first|(go_simp;done)|(go_simp;rfl));intro gb150 hg w43 hbox hb;have n0_:=aK_ (zAE (aH_ HB.out) hb);have n1_:=aK_ (hbox);have n2_:=aK_ ((by rw [hg];exact (zAF (aH_ HB.out)):w.heap.size≤gb150));have n3_:=aK_ ((by rw [hg];exact (zAF (aH_ HB.out)):w.heap.size≤gb150));clear HB;have HB:=n0_;have BK150:=n1_;have GW150:=n2_;have GE150:=n3_;clear n0_ n1_ n2_ n3_;clear hb hbox hg)|((with_reducible refine zAc (N:=3) rfl ?_);refine zAX ?hg (N:=3) ?hd (cs:=#[.int .i64 a1_0,.int .u64 a1_1]) (t:=32) ?hr ?_;(case hd=>rfl);(case hg=>rfl);(case hr=>first|(go_simp;done)|(go_simp;rfl));intro gb151 hg w44 hbox hb;have n0_:=aK_ (zAC (g:=gb150) (o:=.cells #[.int .i64 a0_0,.int .u64 a0_1] 32 (0,0)) (aB_ BK150.out) hb);have n1_:=aK_ (zAE (aI_ HB.out GE150.out) hb);have n2_:=aK_ (hbox);have n3_:=aK_ ((by rw [hg];exact (zAF (aI_ HB.out GE150.out)):w.heap.size≤gb151));have n4_:=aK_ ((by rw [hg];exact (zAF (aI_ HB.out GE150.out)):w.heap.size≤gb151));have n5_:=aK_ ((by rw [hg];exact Nat.ne_of_lt (zAK (g:=gb150) (o:=.cells #[.int .i64 a0_0,.int .u64 a0_1] 32 (0,0)) (aB_ BK150.out)):gb150≠gb151));have n6_:=aK_ ((by rw [hg];exact Nat.ne_of_gt (zAK (g:=gb150) (o:=.cells #[.int .i64 a0_0,.int .u64 a0_1] 32 (0,0)) (aB_ BK150.out)):gb151≠gb150));clear BK150;clear HB;have BK150:=n0_;have HB:=n1_;have BK151:=n2_;have GW151:=n3_;have GE151:=n4_;have NB150_151:=n5_;have NB151_150:=n6_;clear n0_ n1_ n2_ n3_ n4_ n5_ n6_;clear hb hbox hg)|((with_reducible refine zAc (N:=4) rfl ?_);refine zAX ?hg (N:=4) ?hd (cs:=#[.int .i64 0,.int .u64 0]) (t:=32) ?hr ?_;(case hd=>rfl);(case hg=>rfl);(case hr=>first|(go_simp;done)|(go_simp;rfl));intro gb152 hg w45 hbox hb;have n0_:=aK_ (zAC (g:=gb150) (o:=.cells #[.int .i64 a0_0,.int .u64 a0_1] 32 (0,0)) (aB_ BK150.out) hb);have n1_:=aK_ (zAC (g:=gb151) (o:=.cells #[.int .i64 a1_0,.int .u64 a1_1] 32 (0,0)) (aB_ BK151.out) hb);have n2_:=aK_ (zAE (aJ_ HB.out GE150.out GE151.out) hb);have n3_:=aK_ (hbox);have n4_:=aK_ ((by rw [hg];exact (zAF (aJ_ HB.out GE150.out GE151.out)):w.heap.size≤gb152));have n5_:=aK_ ((by rw [hg];exact (zAF (aJ_ HB.out GE150.out GE151.out)):w.heap.size≤gb152));have n6_:=aK_ ((by rw [hg];exact Nat.ne_of_lt (zAK (g:=gb150) (o:=.cells #[.int .i64 a0_0,.int .u64 a0_1] 32 (0,0)) (aB_ BK150.out)):gb150≠gb152));have n7_:=aK_ ((by rw [hg];exact Nat.ne_of_gt (zAK (g:=gb150) (o:=.cells #[.int .i64 a0_0,.int .u64 a0_1] 32 (0,0)) (aB_ BK150.out)):gb152≠gb150));have n8_:=aK_ ((by rw [hg];exact Nat.ne_of_lt (zAK (g:=gb151) (o:=.cells #[.int .i64 a1_0,.int .u64 a1_1] 32 (0,0)) (aB_ BK151.out)):gb151≠gb152));have n9_:=aK_ ((by rw [hg];exact Nat.ne_of_gt (zAK (g:=gb151) (o:=.cells #[.int .i64 a1_0,.int .u64 a1_1] 32 (0,0)) (aB_ BK151.out)):gb152≠gb151));clear BK150;clear BK151;clear HB;have BK150:=n0_;have BK151:=n1_;have HB:=n2_;have BK152:=n3_;have GW152:=n4_;have GE152:=n5_;have NB150_152:=n6_;have NB152_150:=n7_;have NB151_152:=n8_;have NB152_151:=n9_;clear n0_ n1_ n2_ n3_ n4_ n5_ n6_ n7_ n8_ n9_;clear hb hbox hg;have hnb46:=NB150_151.out;have hnc46:=NB151_150.out;have hnb47:=NB150_152.out;have hnc47:=NB152_150.out;have hcz48_0:w45.cell? ⟨gb150,0,none⟩=some (.int .i64 a0_0):=(zAB BK150.out 0).trans rfl;have hcz48_1:w45.cell? ⟨gb150,1,none⟩=some (.int .u64 a0_1):=(zAB BK150.out 1).trans rfl;have hfz48_0:=zAA BK150.out 0;have hfz48_1:=zAA BK150.out 1;have hnb49:=NB151_152.out;have hnc49:=NB152_151.out;have hcz50_0:w45.cell? ⟨gb151,0,none⟩=some (.int .i64 a1_0):=(zAB BK151.out 0).trans rfl;have hcz50_1:w45.cell? ⟨gb151,1,none⟩=some (.int .u64 a1_1):=(zAB BK151.out 1).trans rfl;have hfz50_0:=zAA BK151.out 0;have hfz50_1:=zAA BK151.out 1)|((with_reducible refine zAM (f:=46) rfl ?_);refine goesX_ (some 16) rfl rfl Tryz.func46 (by kernel_rfl) rfl #[.int .u64 a0_1,.int .u64 a1_1,.int .u64 0] rfl aM_ ?_;(with_reducible refine (bits_Add64.calls a0_1 a1_1 0 t153 t154 _ A3.out).mono ?_);rintro e w' ⟨rfl,⟨nd,rfl⟩⟩;refine ⟨_,rfl,?_⟩;(try (rw [drewN_self w45];generalize hq_:World.drewN w45 _=w45;have n0_:zAG (w45.heap[gb150]?=some (.cells #[.int .i64 a0_0,.int .u64 a0_1] 32 (0,0))):=⟨by rw [← hq_];exact (aB_ BK150.out)⟩;have n1_:zAG (w45.heap[gb151]?=some (.cells #[.int .i64 a1_0,.int .u64 a1_1] 32 (0,0))):=⟨by rw [← hq_];exact (aB_ BK151.out)⟩;have n2_:zAG (w45.heap[gb152]?=some (.cells #[.int .i64 0,.int .u64 0] 32 (0,0))):=⟨by rw [← hq_];exact (aB_ BK152.out)⟩;have n3_:zAG (Below w.heap.size w w45):=⟨by rw [← hq_];exact (aQ_ HB.out GE150.out GE151.out GE152.out)⟩;clear BK150 BK151 BK152 HB hq_;have BK150:=n0_;have BK151:=n1_;have BK152:=n2_;have HB:=n3_;clear n0_ n1_ n2_ n3_));have hcz51_0:w45.cell? ⟨gb150,0,none⟩=some (.int .i64 a0_0):=(zAB BK150.out 0).trans rfl;have hcz51_1:w45.cell? ⟨gb150,1,none⟩=some (.int .u64 a0_1):=(zAB BK150.out 1).trans rfl;have hfz51_0:=zAA BK150.out 0;have hfz51_1:=zAA BK150.out 1;have hcz52_0:w45.cell? ⟨gb151,0,none⟩=some (.int .i64 a1_0):=(zAB BK151.out 0).trans rfl;have hcz52_1:w45.cell? ⟨gb151,1,none⟩=some (.int .u64 a1_1):=(zAB BK151.out 1).trans rfl;have hfz52_0:=zAA BK151.out 0;have hfz52_1:=zAA BK151.out 1)|((with_reducible refine zAM (f:=46) rfl ?_);refine goesX_ (some 27) rfl rfl Tryz.func46 (by kernel_rfl) rfl #[.int .u64 (IntKind.u64.wrap (a0_0)),.int .u64 (IntKind.u64.wrap (a1_0)),.int .u64 t154] rfl aM_ ?_;(with_reducible refine (bits_Add64.calls (IntKind.u64.wrap (a0_0)) (IntKind.u64.wrap (a1_0)) t154 t155 t156 _ A4.out).mono ?_);rintro e w' ⟨rfl,⟨nd,rfl⟩⟩;refine ⟨_,rfl,?_⟩;(try (rw [drewN_self w45];generalize hq_:World.drewN w45 _=w45;have n0_:zAG (w45.heap[gb150]?=some (.cells #[.int .i64 a0_0,.int .u64 a0_1] 32 (0,0))):=⟨by rw [← hq_];exact (aB_ BK150.out)⟩;have n1_:zAG (w45.heap[gb151]?=some (.cells #[.int .i64 a1_0,.int .u64 a1_1] 32 (0,0))):=⟨by rw [← hq_];exact (aB_ BK151.out)⟩;have n2_:zAG (w45.heap[gb152]?=some (.cells #[.int .i64 0,.int .u64 0] 32 (0,0))):=⟨by rw [← hq_];exact (aB_ BK152.out)⟩;have n3_:zAG (Below w.heap.size w w45):=⟨by rw [← hq_];exact (aQ_ HB.out GE150.out GE151.out GE152.out)⟩;clear BK150 BK151 BK152 HB hq_;have BK150:=n0_;have BK151:=n1_;have BK152:=n2_;have HB:=n3_;clear n0_ n1_ n2_ n3_)))|((with_reducible refine zAc (N:=10) rfl ?_);refine zAX ?hg (N:=10) ?hd (cs:=#[.int .i64 0,.int .u64 0]) (t:=32) ?hr ?_;(case hd=>rfl);(case hg=>rfl);(case hr=>first|(go_simp;done)|(go_simp;rfl));intro gb157 hg w53 hbox hb;have n0_:=aK_ (zAC (g:=gb150) (o:=.cells #[.int .i64 a0_0,.int .u64 a0_1] 32 (0,0)) (aB_ BK150.out) hb);have n1_:=aK_ (zAC (g:=gb151) (o:=.cells #[.int .i64 a1_0,.int .u64 a1_1] 32 (0,0)) (aB_ BK151.out) hb);have n2_:=aK_ (zAC (g:=gb152) (o:=.cells #[.int .i64 0,.int .u64 0] 32 (0,0)) (aB_ BK152.out) hb);have n3_:=aK_ (zAE (aQ_ HB.out GE150.out GE151.out GE152.out) hb);have n4_:=aK_ (hbox);have n5_:=aK_ ((by rw [hg];exact (zAF (aQ_ HB.out GE150.out GE151.out GE152.out)):w.heap.size≤gb157));have n6_:=aK_ ((by rw [hg];exact (zAF (aQ_ HB.out GE150.out GE151.out GE152.out)):w.heap.size≤gb157));have n7_:=aK_ ((by rw [hg];exact Nat.ne_of_lt (zAK (g:=gb150) (o:=.cells #[.int .i64 a0_0,.int .u64 a0_1] 32 (0,0)) (aB_ BK150.out)):gb150≠gb157));have n8_:=aK_ ((by rw [hg];exact Nat.ne_of_gt (zAK (g:=gb150) (o:=.cells #[.int .i64 a0_0,.int .u64 a0_1] 32 (0,0)) (aB_ BK150.out)):gb157≠gb150));have n9_:=aK_ ((by rw [hg];exact Nat.ne_of_lt (zAK (g:=gb151) (o:=.cells #[.int .i64 a1_0,.int .u64 a1_1] 32 (0,0)) (aB_ BK151.out)):gb151≠gb157));have n10_:=aK_ ((by rw [hg];exact Nat.ne_of_gt (zAK (g:=gb151) (o:=.cells #[.int .i64 a1_0,.int .u64 a1_1] 32 (0,0)) (aB_ BK151.out)):gb157≠gb151));have n11_:=aK_ ((by rw [hg];exact Nat.ne_of_lt (zAK (g:=gb152) (o:=.cells #[.int .i64 0,.int .u64 0] 32 (0,0)) (aB_ BK152.out)):gb152≠gb157));have n12_:=aK_ ((by rw [hg];exact Nat.ne_of_gt (zAK (g:=gb152) (o:=.cells #[.int .i64 0,.int .u64 0] 32 (0,0)) (aB_ BK152.out)):gb157≠gb152));clear BK150;clear BK151;clear BK152;clear HB;have BK150:=n0_;have BK151:=n1_;have BK152:=n2_;have HB:=n3_;have BK157:=n4_;have GW157:=n5_;have GE157:=n6_;have NB150_157:=n7_;have NB157_150:=n8_;have NB151_157:=n9_;have NB157_151:=n10_;have NB152_157:=n11_;have NB157_152:=n12_;clear n0_ n1_ n2_ n3_ n4_ n5_ n6_ n7_ n8_ n9_ n10_ n11_ n12_;clear hb hbox hg;have hnb54:=NB157_150.out;have hnc54:=NB150_157.out;have hnb55:=NB157_151.out;have hnc55:=NB151_157.out;have hnb56:=NB157_152.out;have hnc56:=NB152_157.out;have hcz57_0:w53.cell? ⟨gb157,0,none⟩=some (.int .i64 0):=(zAB BK157.out 0).trans rfl;have hcz57_1:w53.cell? ⟨gb157,1,none⟩=some (.int .u64 0):=(zAB BK157.out 1).trans rfl;have hfz57_0:=zAA BK157.out 0;have hfz57_1:=zAA BK157.out 1;have hcz58_0:w53.cell? ⟨gb150,0,none⟩=some (.int .i64 a0_0):=(zAB BK150.out 0).trans rfl;have hcz58_1:w53.cell? ⟨gb150,1,none⟩=some (.int .u64 a0_1):=(zAB BK150.out 1).trans rfl;have hfz58_0:=zAA BK150.out 0;have hfz58_1:=zAA BK150.out 1;have hcz59_0:w53.cell? ⟨gb151,0,none⟩=some (.int .i64 a1_0):=(zAB BK151.out 0).trans rfl;have hcz59_1:w53.cell? ⟨gb151,1,none⟩=some (.int .u64 a1_1):=(zAB BK151.out 1).trans rfl;have hfz59_0:=zAA BK151.out 0;have hfz59_1:=zAA BK151.out 1;have hcz60_0:w53.cell? ⟨gb152,0,none⟩=some (.int .i64 0):=(zAB BK152.out 0).trans rfl;have hcz60_1:w53.cell? ⟨gb152,1,none⟩=some (.int .u64 0):=(zAB BK152.out 1).trans rfl;have hfz60_0:=zAA BK152.out 0;have hfz60_1:=zAA BK152.out 1))
  refine bodyPost_ret (results_ct rfl _ _ gb152 32 #[.int .i64 (wrap64 (t155)),.int .u64 t153] (0,0) _ rfl (by refine aB_ ?_;refine zAW (cs:=#[.int .i64 (wrap64 (t155)),.int .u64 0]) ?_ 1 _ rfl;refine aB_ ?_;refine zAW (cs:=#[.int .i64 0,.int .u64 0]) ?_ 0 _ rfl;refine aB_ ?_;refine zAT ?_ NB152_157.out _;refine aB_ ?_;refine zAT ?_ NB152_157.out _;refine aB_ ?_;exact BK152.out) Tryz.underlying32 rfl (by kernel_rfl)) rfl ?_
  exact ⟨by first|rfl|(simp [zAP,zAQ] <;> rfl)|(simp [*,zAP,zAQ] <;> rfl),aU_ HB.out GE150.out GE151.out GE152.out GE157.out⟩
 rw [if_pos c5] at H
 have c5b0:((decide (a0_0<0)) == (decide (a1_0<0)))=true:=c5
 (try (have c5b1:decide ((decide (a0_0<0))=(decide (a1_0<0)))=true:=by simpa using c5))
 (try (have c5b2:((decide (a0_0<0)) == (decide (a1_0<0)))=true:=by simpa using c5))
 clear c5
 by_cases c6:((decide ((wrap64 (t155))<0)) != (decide (a0_0<0)))=true
 rotate_left
 ·rw [if_neg c6] at H
  have c6b0:((decide ((wrap64 (t155))<0)) != (decide (a0_0<0)))=false:=by simpa using c6
  (try (have c6b1:decide ((decide ((wrap64 (t155))<0))=(decide (a0_0<0)))=true:=by simpa using c6))
  (try (have c6b2:((decide ((wrap64 (t155))<0)) == (decide (a0_0<0)))=true:=by simpa using c6))
  clear c6
  simp only [Option.some.injEq,Prod.mk.injEq] at H
  obtain ⟨rfl,rfl,rfl⟩:=H
  go_enter Tryz.func22,Tryz.ntmps22
  go_wp2_with (first|((with_reducible refine zAc (N:=2) rfl ?_);refine zAX ?hg (N:=2) ?hd (cs:=#[.int .i64 a0_0,.int .u64 a0_1]) (t:=32) ?hr ?_;(case hd=>rfl);(case hg=>rfl);(case hr=>first|(go_simp;done)|(go_simp;rfl));intro gb150 hg w25 hbox hb;have n0_:=aK_ (zAE (aH_ HB.out) hb);have n1_:=aK_ (hbox);have n2_:=aK_ ((by rw [hg];exact (zAF (aH_ HB.out)):w.heap.size≤gb150));have n3_:=aK_ ((by rw [hg];exact (zAF (aH_ HB.out)):w.heap.size≤gb150));clear HB;have HB:=n0_;have BK150:=n1_;have GW150:=n2_;have GE150:=n3_;clear n0_ n1_ n2_ n3_;clear hb hbox hg)|((with_reducible refine zAc (N:=3) rfl ?_);refine zAX ?hg (N:=3) ?hd (cs:=#[.int .i64 a1_0,.int .u64 a1_1]) (t:=32) ?hr ?_;(case hd=>rfl);(case hg=>rfl);(case hr=>first|(go_simp;done)|(go_simp;rfl));intro gb151 hg w26 hbox hb;have n0_:=aK_ (zAC (g:=gb150) (o:=.cells #[.int .i64 a0_0,.int .u64 a0_1] 32 (0,0)) (aB_ BK150.out) hb);have n1_:=aK_ (zAE (aI_ HB.out GE150.out) hb);have n2_:=aK_ (hbox);have n3_:=aK_ ((by rw [hg];exact (zAF (aI_ HB.out GE150.out)):w.heap.size≤gb151));have n4_:=aK_ ((by rw [hg];exact (zAF (aI_ HB.out GE150.out)):w.heap.size≤gb151));have n5_:=aK_ ((by rw [hg];exact Nat.ne_of_lt (zAK (g:=gb150) (o:=.cells #[.int .i64 a0_0,.int .u64 a0_1] 32 (0,0)) (aB_ BK150.out)):gb150≠gb151));have n6_:=aK_ ((by rw [hg];exact Nat.ne_of_gt (zAK (g:=gb150) (o:=.cells #[.int .i64 a0_0,.int .u64 a0_1] 32 (0,0)) (aB_ BK150.out)):gb151≠gb150));clear BK150;clear HB;have BK150:=n0_;have HB:=n1_;have BK151:=n2_;have GW151:=n3_;have GE151:=n4_;have NB150_151:=n5_;have NB151_150:=n6_;clear n0_ n1_ n2_ n3_ n4_ n5_ n6_;clear hb hbox hg)|((with_reducible refine zAc (N:=4) rfl ?_);refine zAX ?hg (N:=4) ?hd (cs:=#[.int .i64 0,.int .u64 0]) (t:=32) ?hr ?_;(case hd=>rfl);(case hg=>rfl);(case hr=>first|(go_simp;done)|(go_simp;rfl));intro gb152 hg w27 hbox hb;have n0_:=aK_ (zAC (g:=gb150) (o:=.cells #[.int .i64 a0_0,.int .u64 a0_1] 32 (0,0)) (aB_ BK150.out) hb);have n1_:=aK_ (zAC (g:=gb151) (o:=.cells #[.int .i64 a1_0,.int .u64 a1_1] 32 (0,0)) (aB_ BK151.out) hb);have n2_:=aK_ (zAE (aJ_ HB.out GE150.out GE151.out) hb);have n3_:=aK_ (hbox);have n4_:=aK_ ((by rw [hg];exact (zAF (aJ_ HB.out GE150.out GE151.out)):w.heap.size≤gb152));have n5_:=aK_ ((by rw [hg];exact (zAF (aJ_ HB.out GE150.out GE151.out)):w.heap.size≤gb152));have n6_:=aK_ ((by rw [hg];exact Nat.ne_of_lt (zAK (g:=gb150) (o:=.cells #[.int .i64 a0_0,.int .u64 a0_1] 32 (0,0)) (aB_ BK150.out)):gb150≠gb152));have n7_:=aK_ ((by rw [hg];exact Nat.ne_of_gt (zAK (g:=gb150) (o:=.cells #[.int .i64 a0_0,.int .u64 a0_1] 32 (0,0)) (aB_ BK150.out)):gb152≠gb150));have n8_:=aK_ ((by rw [hg];exact Nat.ne_of_lt (zAK (g:=gb151) (o:=.cells #[.int .i64 a1_0,.int .u64 a1_1] 32 (0,0)) (aB_ BK151.out)):gb151≠gb152));have n9_:=aK_ ((by rw [hg];exact Nat.ne_of_gt (zAK (g:=gb151) (o:=.cells #[.int .i64 a1_0,.int .u64 a1_1] 32 (0,0)) (aB_ BK151.out)):gb152≠gb151));clear BK150;clear BK151;clear HB;have BK150:=n0_;have BK151:=n1_;have HB:=n2_;have BK152:=n3_;have GW152:=n4_;have GE152:=n5_;have NB150_152:=n6_;have NB152_150:=n7_;have NB151_152:=n8_;have NB152_151:=n9_;clear n0_ n1_ n2_ n3_ n4_ n5_ n6_ n7_ n8_ n9_;clear hb hbox hg;have hnb28:=NB150_151.out;have hnc28:=NB151_150.out;have hnb29:=NB150_152.out;have hnc29:=NB152_150.out;have hcz30_0:w27.cell? ⟨gb150,0,none⟩=some (.int .i64 a0_0):=(zAB BK150.out 0).trans rfl;have hcz30_1:w27.cell? ⟨gb150,1,none⟩=some (.int .u64 a0_1):=(zAB BK150.out 1).trans rfl;have hfz30_0:=zAA BK150.out 0;have hfz30_1:=zAA BK150.out 1;have hnb31:=NB151_152.out;have hnc31:=NB152_151.out;have hcz32_0:w27.cell? ⟨gb151,0,none⟩=some (.int .i64 a1_0):=(zAB BK151.out 0).trans rfl;have hcz32_1:w27.cell? ⟨gb151,1,none⟩=some (.int .u64 a1_1):=(zAB BK151.out 1).trans rfl;have hfz32_0:=zAA BK151.out 0;have hfz32_1:=zAA BK151.out 1)|((with_reducible refine zAM (f:=46) rfl ?_);refine goesX_ (some 16) rfl rfl Tryz.func46 (by kernel_rfl) rfl #[.int .u64 a0_1,.int .u64 a1_1,.int .u64 0] rfl aM_ ?_;(with_reducible refine (bits_Add64.calls a0_1 a1_1 0 t153 t154 _ A3.out).mono ?_);rintro e w' ⟨rfl,⟨nd,rfl⟩⟩;refine ⟨_,rfl,?_⟩;(try (rw [drewN_self w27];generalize hq_:World.drewN w27 _=w27;have n0_:zAG (w27.heap[gb150]?=some (.cells #[.int .i64 a0_0,.int .u64 a0_1] 32 (0,0))):=⟨by rw [← hq_];exact (aB_ BK150.out)⟩;have n1_:zAG (w27.heap[gb151]?=some (.cells #[.int .i64 a1_0,.int .u64 a1_1] 32 (0,0))):=⟨by rw [← hq_];exact (aB_ BK151.out)⟩;have n2_:zAG (w27.heap[gb152]?=some (.cells #[.int .i64 0,.int .u64 0] 32 (0,0))):=⟨by rw [← hq_];exact (aB_ BK152.out)⟩;have n3_:zAG (Below w.heap.size w w27):=⟨by rw [← hq_];exact (aQ_ HB.out GE150.out GE151.out GE152.out)⟩;clear BK150 BK151 BK152 HB hq_;have BK150:=n0_;have BK151:=n1_;have BK152:=n2_;have HB:=n3_;clear n0_ n1_ n2_ n3_));have hcz33_0:w27.cell? ⟨gb150,0,none⟩=some (.int .i64 a0_0):=(zAB BK150.out 0).trans rfl;have hcz33_1:w27.cell? ⟨gb150,1,none⟩=some (.int .u64 a0_1):=(zAB BK150.out 1).trans rfl;have hfz33_0:=zAA BK150.out 0;have hfz33_1:=zAA BK150.out 1;have hcz34_0:w27.cell? ⟨gb151,0,none⟩=some (.int .i64 a1_0):=(zAB BK151.out 0).trans rfl;have hcz34_1:w27.cell? ⟨gb151,1,none⟩=some (.int .u64 a1_1):=(zAB BK151.out 1).trans rfl;have hfz34_0:=zAA BK151.out 0;have hfz34_1:=zAA BK151.out 1)|((with_reducible refine zAM (f:=46) rfl ?_);refine goesX_ (some 27) rfl rfl Tryz.func46 (by kernel_rfl) rfl #[.int .u64 (IntKind.u64.wrap (a0_0)),.int .u64 (IntKind.u64.wrap (a1_0)),.int .u64 t154] rfl aM_ ?_;(with_reducible refine (bits_Add64.calls (IntKind.u64.wrap (a0_0)) (IntKind.u64.wrap (a1_0)) t154 t155 t156 _ A4.out).mono ?_);rintro e w' ⟨rfl,⟨nd,rfl⟩⟩;refine ⟨_,rfl,?_⟩;(try (rw [drewN_self w27];generalize hq_:World.drewN w27 _=w27;have n0_:zAG (w27.heap[gb150]?=some (.cells #[.int .i64 a0_0,.int .u64 a0_1] 32 (0,0))):=⟨by rw [← hq_];exact (aB_ BK150.out)⟩;have n1_:zAG (w27.heap[gb151]?=some (.cells #[.int .i64 a1_0,.int .u64 a1_1] 32 (0,0))):=⟨by rw [← hq_];exact (aB_ BK151.out)⟩;have n2_:zAG (w27.heap[gb152]?=some (.cells #[.int .i64 0,.int .u64 0] 32 (0,0))):=⟨by rw [← hq_];exact (aB_ BK152.out)⟩;have n3_:zAG (Below w.heap.size w w27):=⟨by rw [← hq_];exact (aQ_ HB.out GE150.out GE151.out GE152.out)⟩;clear BK150 BK151 BK152 HB hq_;have BK150:=n0_;have BK151:=n1_;have BK152:=n2_;have HB:=n3_;clear n0_ n1_ n2_ n3_)))|((with_reducible refine zAc (N:=10) rfl ?_);refine zAX ?hg (N:=10) ?hd (cs:=#[.int .i64 0,.int .u64 0]) (t:=32) ?hr ?_;(case hd=>rfl);(case hg=>rfl);(case hr=>first|(go_simp;done)|(go_simp;rfl));intro gb157 hg w35 hbox hb;have n0_:=aK_ (zAC (g:=gb150) (o:=.cells #[.int .i64 a0_0,.int .u64 a0_1] 32 (0,0)) (aB_ BK150.out) hb);have n1_:=aK_ (zAC (g:=gb151) (o:=.cells #[.int .i64 a1_0,.int .u64 a1_1] 32 (0,0)) (aB_ BK151.out) hb);have n2_:=aK_ (zAC (g:=gb152) (o:=.cells #[.int .i64 0,.int .u64 0] 32 (0,0)) (aB_ BK152.out) hb);have n3_:=aK_ (zAE (aQ_ HB.out GE150.out GE151.out GE152.out) hb);have n4_:=aK_ (hbox);have n5_:=aK_ ((by rw [hg];exact (zAF (aQ_ HB.out GE150.out GE151.out GE152.out)):w.heap.size≤gb157));have n6_:=aK_ ((by rw [hg];exact (zAF (aQ_ HB.out GE150.out GE151.out GE152.out)):w.heap.size≤gb157));have n7_:=aK_ ((by rw [hg];exact Nat.ne_of_lt (zAK (g:=gb150) (o:=.cells #[.int .i64 a0_0,.int .u64 a0_1] 32 (0,0)) (aB_ BK150.out)):gb150≠gb157));have n8_:=aK_ ((by rw [hg];exact Nat.ne_of_gt (zAK (g:=gb150) (o:=.cells #[.int .i64 a0_0,.int .u64 a0_1] 32 (0,0)) (aB_ BK150.out)):gb157≠gb150));have n9_:=aK_ ((by rw [hg];exact Nat.ne_of_lt (zAK (g:=gb151) (o:=.cells #[.int .i64 a1_0,.int .u64 a1_1] 32 (0,0)) (aB_ BK151.out)):gb151≠gb157));have n10_:=aK_ ((by rw [hg];exact Nat.ne_of_gt (zAK (g:=gb151) (o:=.cells #[.int .i64 a1_0,.int .u64 a1_1] 32 (0,0)) (aB_ BK151.out)):gb157≠gb151));have n11_:=aK_ ((by rw [hg];exact Nat.ne_of_lt (zAK (g:=gb152) (o:=.cells #[.int .i64 0,.int .u64 0] 32 (0,0)) (aB_ BK152.out)):gb152≠gb157));have n12_:=aK_ ((by rw [hg];exact Nat.ne_of_gt (zAK (g:=gb152) (o:=.cells #[.int .i64 0,.int .u64 0] 32 (0,0)) (aB_ BK152.out)):gb157≠gb152));clear BK150;clear BK151;clear BK152;clear HB;have BK150:=n0_;have BK151:=n1_;have BK152:=n2_;have HB:=n3_;have BK157:=n4_;have GW157:=n5_;have GE157:=n6_;have NB150_157:=n7_;have NB157_150:=n8_;have NB151_157:=n9_;have NB157_151:=n10_;have NB152_157:=n11_;have NB157_152:=n12_;clear n0_ n1_ n2_ n3_ n4_ n5_ n6_ n7_ n8_ n9_ n10_ n11_ n12_;clear hb hbox hg;have hnb36:=NB157_150.out;have hnc36:=NB150_157.out;have hnb37:=NB157_151.out;have hnc37:=NB151_157.out;have hnb38:=NB157_152.out;have hnc38:=NB152_157.out;have hcz39_0:w35.cell? ⟨gb157,0,none⟩=some (.int .i64 0):=(zAB BK157.out 0).trans rfl;have hcz39_1:w35.cell? ⟨gb157,1,none⟩=some (.int .u64 0):=(zAB BK157.out 1).trans rfl;have hfz39_0:=zAA BK157.out 0;have hfz39_1:=zAA BK157.out 1;have hcz40_0:w35.cell? ⟨gb150,0,none⟩=some (.int .i64 a0_0):=(zAB BK150.out 0).trans rfl;have hcz40_1:w35.cell? ⟨gb150,1,none⟩=some (.int .u64 a0_1):=(zAB BK150.out 1).trans rfl;have hfz40_0:=zAA BK150.out 0;have hfz40_1:=zAA BK150.out 1;have hcz41_0:w35.cell? ⟨gb151,0,none⟩=some (.int .i64 a1_0):=(zAB BK151.out 0).trans rfl;have hcz41_1:w35.cell? ⟨gb151,1,none⟩=some (.int .u64 a1_1):=(zAB BK151.out 1).trans rfl;have hfz41_0:=zAA BK151.out 0;have hfz41_1:=zAA BK151.out 1;have hcz42_0:w35.cell? ⟨gb152,0,none⟩=some (.int .i64 0):=(zAB BK152.out 0).trans rfl;have hcz42_1:w35.cell? ⟨gb152,1,none⟩=some (.int .u64 0):=(zAB BK152.out 1).trans rfl;have hfz42_0:=zAA BK152.out 0;have hfz42_1:=zAA BK152.out 1))
  refine bodyPost_ret (results_ct rfl _ _ gb152 32 #[.int .i64 (wrap64 (t155)),.int .u64 t153] (0,0) _ rfl (by refine aB_ ?_;refine zAW (cs:=#[.int .i64 (wrap64 (t155)),.int .u64 0]) ?_ 1 _ rfl;refine aB_ ?_;refine zAW (cs:=#[.int .i64 0,.int .u64 0]) ?_ 0 _ rfl;refine aB_ ?_;refine zAT ?_ NB152_157.out _;refine aB_ ?_;refine zAT ?_ NB152_157.out _;refine aB_ ?_;exact BK152.out) Tryz.underlying32 rfl (by kernel_rfl)) rfl ?_
  exact ⟨by first|rfl|(simp [zAP,zAQ] <;> rfl)|(simp [*,zAP,zAQ] <;> rfl),aU_ HB.out GE150.out GE151.out GE152.out GE157.out⟩
 rw [if_pos c6] at H
 have c6b0:((decide ((wrap64 (t155))<0)) != (decide (a0_0<0)))=true:=c6
 (try (have c6b1:decide ((decide ((wrap64 (t155))<0))=(decide (a0_0<0)))=false:=by simpa using c6))
 (try (have c6b2:((decide ((wrap64 (t155))<0)) == (decide (a0_0<0)))=false:=by simpa using c6))
 (try (have c6b3 : ¬ ((decide ((wrap64 (t155))<0))=(decide (a0_0<0))):=by simpa using c6))
 clear c6
 simp only [Option.some.injEq,Prod.mk.injEq] at H
 obtain ⟨rfl,rfl,rfl⟩:=H
 go_enter Tryz.func22,Tryz.ntmps22
 go_wp2_with (first|((with_reducible refine zAc (N:=2) rfl ?_);refine zAX ?hg (N:=2) ?hd (cs:=#[.int .i64 a0_0,.int .u64 a0_1]) (t:=32) ?hr ?_;(case hd=>rfl);(case hg=>rfl);(case hr=>first|(go_simp;done)|(go_simp;rfl));intro gb150 hg w7 hbox hb;have n0_:=aK_ (zAE (aH_ HB.out) hb);have n1_:=aK_ (hbox);have n2_:=aK_ ((by rw [hg];exact (zAF (aH_ HB.out)):w.heap.size≤gb150));have n3_:=aK_ ((by rw [hg];exact (zAF (aH_ HB.out)):w.heap.size≤gb150));clear HB;have HB:=n0_;have BK150:=n1_;have GW150:=n2_;have GE150:=n3_;clear n0_ n1_ n2_ n3_;clear hb hbox hg)|((with_reducible refine zAc (N:=3) rfl ?_);refine zAX ?hg (N:=3) ?hd (cs:=#[.int .i64 a1_0,.int .u64 a1_1]) (t:=32) ?hr ?_;(case hd=>rfl);(case hg=>rfl);(case hr=>first|(go_simp;done)|(go_simp;rfl));intro gb151 hg w8 hbox hb;have n0_:=aK_ (zAC (g:=gb150) (o:=.cells #[.int .i64 a0_0,.int .u64 a0_1] 32 (0,0)) (aB_ BK150.out) hb);have n1_:=aK_ (zAE (aI_ HB.out GE150.out) hb);have n2_:=aK_ (hbox);have n3_:=aK_ ((by rw [hg];exact (zAF (aI_ HB.out GE150.out)):w.heap.size≤gb151));have n4_:=aK_ ((by rw [hg];exact (zAF (aI_ HB.out GE150.out)):w.heap.size≤gb151));have n5_:=aK_ ((by rw [hg];exact Nat.ne_of_lt (zAK (g:=gb150) (o:=.cells #[.int .i64 a0_0,.int .u64 a0_1] 32 (0,0)) (aB_ BK150.out)):gb150≠gb151));have n6_:=aK_ ((by rw [hg];exact Nat.ne_of_gt (zAK (g:=gb150) (o:=.cells #[.int .i64 a0_0,.int .u64 a0_1] 32 (0,0)) (aB_ BK150.out)):gb151≠gb150));clear BK150;clear HB;have BK150:=n0_;have HB:=n1_;have BK151:=n2_;have GW151:=n3_;have GE151:=n4_;have NB150_151:=n5_;have NB151_150:=n6_;clear n0_ n1_ n2_ n3_ n4_ n5_ n6_;clear hb hbox hg)|((with_reducible refine zAc (N:=4) rfl ?_);refine zAX ?hg (N:=4) ?hd (cs:=#[.int .i64 0,.int .u64 0]) (t:=32) ?hr ?_;(case hd=>rfl);(case hg=>rfl);(case hr=>first|(go_simp;done)|(go_simp;rfl));intro gb152 hg w9 hbox hb;have n0_:=aK_ (zAC (g:=gb150) (o:=.cells #[.int .i64 a0_0,.int .u64 a0_1] 32 (0,0)) (aB_ BK150.out) hb);have n1_:=aK_ (zAC (g:=gb151) (o:=.cells #[.int .i64 a1_0,.int .u64 a1_1] 32 (0,0)) (aB_ BK151.out) hb);have n2_:=aK_ (zAE (aJ_ HB.out GE150.out GE151.out) hb);have n3_:=aK_ (hbox);have n4_:=aK_ ((by rw [hg];exact (zAF (aJ_ HB.out GE150.out GE151.out)):w.heap.size≤gb152));have n5_:=aK_ ((by rw [hg];exact (zAF (aJ_ HB.out GE150.out GE151.out)):w.heap.size≤gb152));have n6_:=aK_ ((by rw [hg];exact Nat.ne_of_lt (zAK (g:=gb150) (o:=.cells #[.int .i64 a0_0,.int .u64 a0_1] 32 (0,0)) (aB_ BK150.out)):gb150≠gb152));have n7_:=aK_ ((by rw [hg];exact Nat.ne_of_gt (zAK (g:=gb150) (o:=.cells #[.int .i64 a0_0,.int .u64 a0_1] 32 (0,0)) (aB_ BK150.out)):gb152≠gb150));have n8_:=aK_ ((by rw [hg];exact Nat.ne_of_lt (zAK (g:=gb151) (o:=.cells #[.int .i64 a1_0,.int .u64 a1_1] 32 (0,0)) (aB_ BK151.out)):gb151≠gb152));have n9_:=aK_ ((by rw [hg];exact Nat.ne_of_gt (zAK (g:=gb151) (o:=.cells #[.int .i64 a1_0,.int .u64 a1_1] 32 (0,0)) (aB_ BK151.out)):gb152≠gb151));clear BK150;clear BK151;clear HB;have BK150:=n0_;have BK151:=n1_;have HB:=n2_;have BK152:=n3_;have GW152:=n4_;have GE152:=n5_;have NB150_152:=n6_;have NB152_150:=n7_;have NB151_152:=n8_;have NB152_151:=n9_;clear n0_ n1_ n2_ n3_ n4_ n5_ n6_ n7_ n8_ n9_;clear hb hbox hg;have hnb10:=NB150_151.out;have hnc10:=NB151_150.out;have hnb11:=NB150_152.out;have hnc11:=NB152_150.out;have hcz12_0:w9.cell? ⟨gb150,0,none⟩=some (.int .i64 a0_0):=(zAB BK150.out 0).trans rfl;have hcz12_1:w9.cell? ⟨gb150,1,none⟩=some (.int .u64 a0_1):=(zAB BK150.out 1).trans rfl;have hfz12_0:=zAA BK150.out 0;have hfz12_1:=zAA BK150.out 1;have hnb13:=NB151_152.out;have hnc13:=NB152_151.out;have hcz14_0:w9.cell? ⟨gb151,0,none⟩=some (.int .i64 a1_0):=(zAB BK151.out 0).trans rfl;have hcz14_1:w9.cell? ⟨gb151,1,none⟩=some (.int .u64 a1_1):=(zAB BK151.out 1).trans rfl;have hfz14_0:=zAA BK151.out 0;have hfz14_1:=zAA BK151.out 1)|((with_reducible refine zAM (f:=46) rfl ?_);refine goesX_ (some 16) rfl rfl Tryz.func46 (by kernel_rfl) rfl #[.int .u64 a0_1,.int .u64 a1_1,.int .u64 0] rfl aM_ ?_;(with_reducible refine (bits_Add64.calls a0_1 a1_1 0 t153 t154 _ A3.out).mono ?_);rintro e w' ⟨rfl,⟨nd,rfl⟩⟩;refine ⟨_,rfl,?_⟩;(try (rw [drewN_self w9];generalize hq_:World.drewN w9 _=w9;have n0_:zAG (w9.heap[gb150]?=some (.cells #[.int .i64 a0_0,.int .u64 a0_1] 32 (0,0))):=⟨by rw [← hq_];exact (aB_ BK150.out)⟩;have n1_:zAG (w9.heap[gb151]?=some (.cells #[.int .i64 a1_0,.int .u64 a1_1] 32 (0,0))):=⟨by rw [← hq_];exact (aB_ BK151.out)⟩;have n2_:zAG (w9.heap[gb152]?=some (.cells #[.int .i64 0,.int .u64 0] 32 (0,0))):=⟨by rw [← hq_];exact (aB_ BK152.out)⟩;have n3_:zAG (Below w.heap.size w w9):=⟨by rw [← hq_];exact (aQ_ HB.out GE150.out GE151.out GE152.out)⟩;clear BK150 BK151 BK152 HB hq_;have BK150:=n0_;have BK151:=n1_;have BK152:=n2_;have HB:=n3_;clear n0_ n1_ n2_ n3_));have hcz15_0:w9.cell? ⟨gb150,0,none⟩=some (.int .i64 a0_0):=(zAB BK150.out 0).trans rfl;have hcz15_1:w9.cell? ⟨gb150,1,none⟩=some (.int .u64 a0_1):=(zAB BK150.out 1).trans rfl;have hfz15_0:=zAA BK150.out 0;have hfz15_1:=zAA BK150.out 1;have hcz16_0:w9.cell? ⟨gb151,0,none⟩=some (.int .i64 a1_0):=(zAB BK151.out 0).trans rfl;have hcz16_1:w9.cell? ⟨gb151,1,none⟩=some (.int .u64 a1_1):=(zAB BK151.out 1).trans rfl;have hfz16_0:=zAA BK151.out 0;have hfz16_1:=zAA BK151.out 1)|((with_reducible refine zAM (f:=46) rfl ?_);refine goesX_ (some 27) rfl rfl Tryz.func46 (by kernel_rfl) rfl #[.int .u64 (IntKind.u64.wrap (a0_0)),.int .u64 (IntKind.u64.wrap (a1_0)),.int .u64 t154] rfl aM_ ?_;(with_reducible refine (bits_Add64.calls (IntKind.u64.wrap (a0_0)) (IntKind.u64.wrap (a1_0)) t154 t155 t156 _ A4.out).mono ?_);rintro e w' ⟨rfl,⟨nd,rfl⟩⟩;refine ⟨_,rfl,?_⟩;(try (rw [drewN_self w9];generalize hq_:World.drewN w9 _=w9;have n0_:zAG (w9.heap[gb150]?=some (.cells #[.int .i64 a0_0,.int .u64 a0_1] 32 (0,0))):=⟨by rw [← hq_];exact (aB_ BK150.out)⟩;have n1_:zAG (w9.heap[gb151]?=some (.cells #[.int .i64 a1_0,.int .u64 a1_1] 32 (0,0))):=⟨by rw [← hq_];exact (aB_ BK151.out)⟩;have n2_:zAG (w9.heap[gb152]?=some (.cells #[.int .i64 0,.int .u64 0] 32 (0,0))):=⟨by rw [← hq_];exact (aB_ BK152.out)⟩;have n3_:zAG (Below w.heap.size w w9):=⟨by rw [← hq_];exact (aQ_ HB.out GE150.out GE151.out GE152.out)⟩;clear BK150 BK151 BK152 HB hq_;have BK150:=n0_;have BK151:=n1_;have BK152:=n2_;have HB:=n3_;clear n0_ n1_ n2_ n3_)))|((with_reducible refine zAc (N:=10) rfl ?_);refine zAX ?hg (N:=10) ?hd (cs:=#[.int .i64 0,.int .u64 0]) (t:=32) ?hr ?_;(case hd=>rfl);(case hg=>rfl);(case hr=>first|(go_simp;done)|(go_simp;rfl));intro gb157 hg w17 hbox hb;have n0_:=aK_ (zAC (g:=gb150) (o:=.cells #[.int .i64 a0_0,.int .u64 a0_1] 32 (0,0)) (aB_ BK150.out) hb);have n1_:=aK_ (zAC (g:=gb151) (o:=.cells #[.int .i64 a1_0,.int .u64 a1_1] 32 (0,0)) (aB_ BK151.out) hb);have n2_:=aK_ (zAC (g:=gb152) (o:=.cells #[.int .i64 0,.int .u64 0] 32 (0,0)) (aB_ BK152.out) hb);have n3_:=aK_ (zAE (aQ_ HB.out GE150.out GE151.out GE152.out) hb);have n4_:=aK_ (hbox);have n5_:=aK_ ((by rw [hg];exact (zAF (aQ_ HB.out GE150.out GE151.out GE152.out)):w.heap.size≤gb157));have n6_:=aK_ ((by rw [hg];exact (zAF (aQ_ HB.out GE150.out GE151.out GE152.out)):w.heap.size≤gb157));have n7_:=aK_ ((by rw [hg];exact Nat.ne_of_lt (zAK (g:=gb150) (o:=.cells #[.int .i64 a0_0,.int .u64 a0_1] 32 (0,0)) (aB_ BK150.out)):gb150≠gb157));have n8_:=aK_ ((by rw [hg];exact Nat.ne_of_gt (zAK (g:=gb150) (o:=.cells #[.int .i64 a0_0,.int .u64 a0_1] 32 (0,0)) (aB_ BK150.out)):gb157≠gb150));have n9_:=aK_ ((by rw [hg];exact Nat.ne_of_lt (zAK (g:=gb151) (o:=.cells #[.int .i64 a1_0,.int .u64 a1_1] 32 (0,0)) (aB_ BK151.out)):gb151≠gb157));have n10_:=aK_ ((by rw [hg];exact Nat.ne_of_gt (zAK (g:=gb151) (o:=.cells #[.int .i64 a1_0,.int .u64 a1_1] 32 (0,0)) (aB_ BK151.out)):gb157≠gb151));have n11_:=aK_ ((by rw [hg];exact Nat.ne_of_lt (zAK (g:=gb152) (o:=.cells #[.int .i64 0,.int .u64 0] 32 (0,0)) (aB_ BK152.out)):gb152≠gb157));have n12_:=aK_ ((by rw [hg];exact Nat.ne_of_gt (zAK (g:=gb152) (o:=.cells #[.int .i64 0,.int .u64 0] 32 (0,0)) (aB_ BK152.out)):gb157≠gb152));clear BK150;clear BK151;clear BK152;clear HB;have BK150:=n0_;have BK151:=n1_;have BK152:=n2_;have HB:=n3_;have BK157:=n4_;have GW157:=n5_;have GE157:=n6_;have NB150_157:=n7_;have NB157_150:=n8_;have NB151_157:=n9_;have NB157_151:=n10_;have NB152_157:=n11_;have NB157_152:=n12_;clear n0_ n1_ n2_ n3_ n4_ n5_ n6_ n7_ n8_ n9_ n10_ n11_ n12_;clear hb hbox hg;have hnb18:=NB157_150.out;have hnc18:=NB150_157.out;have hnb19:=NB157_151.out;have hnc19:=NB151_157.out;have hnb20:=NB157_152.out;have hnc20:=NB152_157.out;have hcz21_0:w17.cell? ⟨gb157,0,none⟩=some (.int .i64 0):=(zAB BK157.out 0).trans rfl;have hcz21_1:w17.cell? ⟨gb157,1,none⟩=some (.int .u64 0):=(zAB BK157.out 1).trans rfl;have hfz21_0:=zAA BK157.out 0;have hfz21_1:=zAA BK157.out 1;have hcz22_0:w17.cell? ⟨gb150,0,none⟩=some (.int .i64 a0_0):=(zAB BK150.out 0).trans rfl;have hcz22_1:w17.cell? ⟨gb150,1,none⟩=some (.int .u64 a0_1):=(zAB BK150.out 1).trans rfl;have hfz22_0:=zAA BK150.out 0;have hfz22_1:=zAA BK150.out 1;have hcz23_0:w17.cell? ⟨gb151,0,none⟩=some (.int .i64 a1_0):=(zAB BK151.out 0).trans rfl;have hcz23_1:w17.cell? ⟨gb151,1,none⟩=some (.int .u64 a1_1):=(zAB BK151.out 1).trans rfl;have hfz23_0:=zAA BK151.out 0;have hfz23_1:=zAA BK151.out 1;have hcz24_0:w17.cell? ⟨gb152,0,none⟩=some (.int .i64 0):=(zAB BK152.out 0).trans rfl;have hcz24_1:w17.cell? ⟨gb152,1,none⟩=some (.int .u64 0):=(zAB BK152.out 1).trans rfl;have hfz24_0:=zAA BK152.out 0;have hfz24_1:=zAA BK152.out 1))
 refine bodyPost_ret (results_ct rfl _ _ gb152 32 #[.int .i64 0,.int .u64 0] (0,0) _ rfl (by refine aB_ ?_;refine zAW (cs:=#[.int .i64 0,.int .u64 0]) ?_ 1 _ rfl;refine aB_ ?_;refine zAW (cs:=#[.int .i64 0,.int .u64 0]) ?_ 0 _ rfl;refine aB_ ?_;refine zAT ?_ NB152_157.out _;refine aB_ ?_;refine zAT ?_ NB152_157.out _;refine aB_ ?_;exact BK152.out) Tryz.underlying32 rfl (by kernel_rfl)) rfl ?_
 exact ⟨by first|rfl|(simp [zAP,zAQ] <;> rfl)|(simp [*,zAP,zAQ] <;> rfl),aU_ HB.out GE150.out GE151.out GE152.out GE157.out⟩
end Go.Proofs.YtkikekiokclmdaaGreatDoor.S

namespace Go.Proofs.YtkikekiokclmdaaGreatDoor.S
open Go.RowKit Go.Proofs.YtkikekiokclmdaaGreatDoorW.PrintWords Go.Proofs.YtkikekiokclmdaaGreatDoorW.PrintLast Go.Proofs.YtkikekiokclmdaaGreatDoorW.PrintMore
attribute [local go_sem] max2_int min2_int max_two min_two max_three min_three max_four min_four
mutual
def zAb.l0:Nat→Bool→List Int→Int→Int→Int→Int→Option (Int × Int × Int)
 |0,_,_,_,_,_,_=>none
 |k+1,x5,x24,x25,x26,x163000,x163001=>if x26<x25 then (if 0≤x26 then (if x26<(x24.length:Int) then ((wide_Of.f (((rd x24 x26) - 48) % 256)).bind fun bt167=>(if x5=true then ((wide_Neg.f bt167.1 bt167.2).bind fun bt170=>(zAb.j1 k x5 x24 x25 x26 x163000 x163001 bt170.1 bt170.2.1)) else (zAb.j1 k x5 x24 x25 x26 x163000 x163001 bt167.1 bt167.2))) else (none)) else (none)) else (some (x163000,x163001,0))
def zAb.j1:Nat→Bool→List Int→Int→Int→Int→Int→Int→Int→Option (Int × Int × Int)
 |0,_,_,_,_,_,_,_,_=>none
 |k+1,x5,x24,x25,x26,x163000,x163001,x170000,x170001=>(wide_Of.f 10).bind fun bt173=>((times_Mul.f k x163000 x163001 bt173.1 bt173.2).bind fun bt175=>(if bt175.2.2=0 then ((wide_Add.f bt175.1 bt175.2.1 x170000 x170001).bind fun bt179=>(if bt179.2.2=0 then (zAb.l0 k x5 x24 x25 (wrap64 (x26+1)) bt179.1 bt179.2.1) else (some (0,0,bt179.2.2)))) else (some (0,0,bt175.2.2))))
end
def zAb.f (k:Nat) (a0:ByteArray):Option (Int × Int × Int):=(deci_signed.f a0).bind fun bt159=>(if bt159.2.2=true then ((bytes_of.f bt159.1).bind fun t163=>(zAb.l0 k bt159.2.1 t163 (t163.length:Int) 0 0 0)) else (some (0,0,30)))
theorem zAb.mono_l:∀ k,(∀ y0 y1 y2 y3 y4 y5,LeO (zAb.l0 k y0 y1 y2 y3 y4 y5) (zAb.l0 (k+1) y0 y1 y2 y3 y4 y5))∧(∀ y0 y1 y2 y3 y4 y5 y6 y7,LeO (zAb.j1 k y0 y1 y2 y3 y4 y5 y6 y7) (zAb.j1 (k+1) y0 y1 y2 y3 y4 y5 y6 y7))
 |0=>⟨fun _ _ _ _ _ _ r h=>by simp [zAb.l0] at h,fun _ _ _ _ _ _ _ _ r h=>by simp [zAb.j1] at h⟩
 |k+1=>by
  obtain ⟨ih0,ih1⟩:=zAb.mono_l k
  refine ⟨?_,?_⟩
  ·intro y0 y1 y2 y3 y4 y5
   unfold zAb.l0
   repeat' first
   |(with_reducible exact ih0 _ _ _ _ _ _)
   |(with_reducible exact ih1 _ _ _ _ _ _ _ _)
   |(with_reducible exact times_Mul.mono _ _ _ _ _)
   |(with_reducible exact LeO.refl _)
   |(with_reducible exact LeO.none _)
   |(with_reducible refine LeO.ite ?_ ?_)
   |(with_reducible refine LeO.bind ?_ (fun _=>?_))
   |exact ih0 _ _ _ _ _ _
   |exact ih1 _ _ _ _ _ _ _ _
   |exact times_Mul.mono _ _ _ _ _
   |exact LeO.none _
   |refine LeO.ite ?_ ?_
   |refine LeO.bind ?_ (fun _=>?_)
  ·intro y0 y1 y2 y3 y4 y5 y6 y7
   unfold zAb.j1
   repeat' first
   |(with_reducible exact ih0 _ _ _ _ _ _)
   |(with_reducible exact ih1 _ _ _ _ _ _ _ _)
   |(with_reducible exact times_Mul.mono _ _ _ _ _)
   |(with_reducible exact LeO.refl _)
   |(with_reducible exact LeO.none _)
   |(with_reducible refine LeO.ite ?_ ?_)
   |(with_reducible refine LeO.bind ?_ (fun _=>?_))
   |exact ih0 _ _ _ _ _ _
   |exact ih1 _ _ _ _ _ _ _ _
   |exact times_Mul.mono _ _ _ _ _
   |exact LeO.none _
   |refine LeO.ite ?_ ?_
   |refine LeO.bind ?_ (fun _=>?_)
theorem zAb.mono:∀ a0 k,LeO (zAb.f k a0) (zAb.f (k+1) a0):=by
 intro a0 k
 obtain ⟨ih0,ih1⟩:=zAb.mono_l k
 unfold zAb.f
 repeat' first
   |(with_reducible exact ih0 _ _ _ _ _ _)
   |(with_reducible exact ih1 _ _ _ _ _ _ _ _)
   |(with_reducible exact times_Mul.mono _ _ _ _ _)
   |(with_reducible exact LeO.refl _)
   |(with_reducible exact LeO.none _)
   |(with_reducible refine LeO.ite ?_ ?_)
   |(with_reducible refine LeO.bind ?_ (fun _=>?_))
   |exact ih0 _ _ _ _ _ _
   |exact ih1 _ _ _ _ _ _ _ _
   |exact times_Mul.mono _ _ _ _ _
   |exact LeO.none _
   |refine LeO.ite ?_ ?_
   |refine LeO.bind ?_ (fun _=>?_)
def zAb.T11:Bool × List (List Nat × List Nat):=(true,[([],[]),([],[]),([0,1,1],[0,1]),([2],[2]),([3],[3]),([3],[3]),([],[]),([6,4,2,0,1,2,3,4,6],[4,6]),([5,7,0,1,2,3,4,5,6,7],[5])])
def zAb.B11:List Nat:=[0,0,3,7,15,15,0,95,255]
theorem zAb.tab11:rtab .any (opsOf Tryz.f9 11)=zAb.T11:=by kernel_rfl
theorem zAb.bits11:waitsOk zAb.T11.2 zAb.B11=true:=by kernel_rfl
set_option maxHeartbeats 8000000 in
set_option maxRecDepth 100000 in
theorem zAb.calls (k:Nat) (a0:ByteArray) (r1:Int) (r2:Int) (r3:Int) (w:World) (h:zAb.f k a0=some (r1,r2,r3)) :
  Calls Tryz.prog 9 #[.string a0] w fun e w'=>e = .returned (.tuple #[.agg #[.int .i64 r1,.int .u64 r2],.int .i64 r3])∧Below w.heap.size w w':=by
 have hu32:=Tryz.underlying32
 have HB:=aK_ (Below.refl w.heap.size w)
 have H:((deci_signed.f a0).bind fun bt159=>(if bt159.2.2=true then ((bytes_of.f bt159.1).bind fun t163=>(zAb.l0 k bt159.2.1 t163 (t163.length:Int) 0 0 0)) else (some (0,0,30))))=some (r1,r2,r3):=h
 clear h
 replace H:=Option.bind_eq_some_iff.mp H
 obtain ⟨⟨t159,t160,t161⟩,A20,H⟩:=H
 replace H:(if t161=true then ((bytes_of.f t159).bind fun t163=>(zAb.l0 k t160 t163 (t163.length:Int) 0 0 0)) else (some (0,0,30)))=some (r1,r2,r3):=H
 have A2:=aK_ A20
 clear A20
 by_cases c3:t161=true
 rotate_left
 ·replace c3:=Bool.eq_false_iff.mpr c3
  subst c3
  have H1:(some (0,0,30))=some (r1,r2,r3):=by rw [if_neg (show ¬ (false=true) by decide)] at H;exact H
  clear H
  have H:=H1
  clear H1
  simp only [Option.some.injEq,Prod.mk.injEq] at H
  obtain ⟨rfl,rfl,rfl⟩:=H
  go_enter Tryz.func9,Tryz.ntmps9
  go_wp2_with (first|((with_reducible refine zAc (N:=2) rfl ?_);refine zAX ?hg (N:=2) ?hd (cs:=#[.int .i64 0,.int .u64 0]) (t:=32) ?hr ?_;(case hd=>rfl);(case hg=>rfl);(case hr=>first|(go_simp;done)|(go_simp;rfl));intro gb158 hg w83 hbox hb;have n0_:=aK_ (zAE (aH_ HB.out) hb);have n1_:=aK_ (hbox);have n2_:=aK_ ((by rw [hg];exact (zAF (aH_ HB.out)):w.heap.size≤gb158));have n3_:=aK_ ((by rw [hg];exact (zAF (aH_ HB.out)):w.heap.size≤gb158));clear HB;have HB:=n0_;have BK158:=n1_;have GW158:=n2_;have GE158:=n3_;clear n0_ n1_ n2_ n3_;clear hb hbox hg)|((with_reducible refine zAM (f:=15) rfl ?_);refine goesL_ (some 15) rfl rfl Tryz.func15 (by kernel_rfl) rfl #[.string a0] rfl aM_ ?_;(with_reducible refine (deci_signed.calls a0 t159 t160 false _ A2.out).mono ?_);rintro e w84 ⟨rfl,hb⟩;refine ⟨_,rfl,?_⟩;have n0_:=aK_ (zAC (g:=gb158) (o:=.cells #[.int .i64 0,.int .u64 0] 32 (0,0)) (aB_ BK158.out) hb);have n1_:=aK_ (zAE (aI_ HB.out GE158.out) hb);clear BK158;clear HB;have BK158:=n0_;have HB:=n1_;clear n0_ n1_;(try clear hb);(try clear hb2);(try clear hk);(try clear hi);have hcz85_0:w84.cell? ⟨gb158,0,none⟩=some (.int .i64 0):=(zAB BK158.out 0).trans rfl;have hcz85_1:w84.cell? ⟨gb158,1,none⟩=some (.int .u64 0):=(zAB BK158.out 1).trans rfl;have hfz85_0:=zAA BK158.out 0;have hfz85_1:=zAA BK158.out 1))
  refine bodyPost_ret (results_ct rfl _ _ gb158 32 #[.int .i64 0,.int .u64 0] (0,0) _ rfl (by refine aB_ ?_;refine zAW (cs:=#[.int .i64 0,.int .u64 0]) ?_ 1 _ rfl;refine aB_ ?_;refine zAW (cs:=#[.int .i64 0,.int .u64 0]) ?_ 0 _ rfl;refine aB_ ?_;exact BK158.out) Tryz.underlying32 rfl (by kernel_rfl)) rfl ?_
  exact ⟨by first|rfl|(simp [zAP,zAQ] <;> rfl)|(simp [*,zAP,zAQ] <;> rfl),aI_ HB.out GE158.out⟩
 subst c3
 have H1:((bytes_of.f t159).bind fun t163=>(zAb.l0 k t160 t163 (t163.length:Int) 0 0 0))=some (r1,r2,r3):=by rw [if_pos rfl] at H;exact H
 clear H
 have H:=H1
 clear H1
 replace H:=Option.bind_eq_some_iff.mp H
 obtain ⟨t163,A40,H⟩:=H
 replace H:(zAb.l0 k t160 t163 (t163.length:Int) 0 0 0)=some (r1,r2,r3):=H
 have A4:=aK_ A40
 clear A40
 have H':=aK_ H
 clear H
 go_enter Tryz.func9,Tryz.ntmps9
 go_wp2_with (first|((with_reducible refine zAc (N:=2) rfl ?_);refine zAX ?hg (N:=2) ?hd (cs:=#[.int .i64 0,.int .u64 0]) (t:=32) ?hr ?_;(case hd=>rfl);(case hg=>rfl);(case hr=>first|(go_simp;done)|(go_simp;rfl));intro gb158 hg w5 hbox hb;have n0_:=aK_ (zAE (aH_ HB.out) hb);have n1_:=aK_ (hbox);have n2_:=aK_ ((by rw [hg];exact (zAF (aH_ HB.out)):w.heap.size≤gb158));have n3_:=aK_ ((by rw [hg];exact (zAF (aH_ HB.out)):w.heap.size≤gb158));clear HB;have HB:=n0_;have BK158:=n1_;have GW158:=n2_;have GE158:=n3_;clear n0_ n1_ n2_ n3_;clear hb hbox hg)|((with_reducible refine zAM (f:=15) rfl ?_);refine goesL_ (some 15) rfl rfl Tryz.func15 (by kernel_rfl) rfl #[.string a0] rfl aM_ ?_;(with_reducible refine (deci_signed.calls a0 t159 t160 true _ A2.out).mono ?_);rintro e w6 ⟨rfl,hb⟩;refine ⟨_,rfl,?_⟩;have n0_:=aK_ (zAC (g:=gb158) (o:=.cells #[.int .i64 0,.int .u64 0] 32 (0,0)) (aB_ BK158.out) hb);have n1_:=aK_ (zAE (aI_ HB.out GE158.out) hb);clear BK158;clear HB;have BK158:=n0_;have HB:=n1_;clear n0_ n1_;(try clear hb);(try clear hb2);(try clear hk);(try clear hi))|((with_reducible refine zAc (N:=7) rfl ?_);refine zAX ?hg (N:=7) ?hd (cs:=#[.int .i64 0,.int .u64 0]) (t:=32) ?hr ?_;(case hd=>rfl);(case hg=>rfl);(case hr=>first|(go_simp;done)|(go_simp;rfl));intro gb162 hg w7 hbox hb;have n0_:=aK_ (zAC (g:=gb158) (o:=.cells #[.int .i64 0,.int .u64 0] 32 (0,0)) (aB_ BK158.out) hb);have n1_:=aK_ (zAE (aI_ HB.out GE158.out) hb);have n2_:=aK_ (hbox);have n3_:=aK_ ((by rw [hg];exact (zAF (aI_ HB.out GE158.out)):w.heap.size≤gb162));have n4_:=aK_ ((by rw [hg];exact (zAF (aI_ HB.out GE158.out)):w.heap.size≤gb162));have n5_:=aK_ ((by rw [hg];exact Nat.ne_of_lt (zAK (g:=gb158) (o:=.cells #[.int .i64 0,.int .u64 0] 32 (0,0)) (aB_ BK158.out)):gb158≠gb162));have n6_:=aK_ ((by rw [hg];exact Nat.ne_of_gt (zAK (g:=gb158) (o:=.cells #[.int .i64 0,.int .u64 0] 32 (0,0)) (aB_ BK158.out)):gb162≠gb158));clear BK158;clear HB;have BK158:=n0_;have HB:=n1_;have BK162:=n2_;have GW162:=n3_;have GE162:=n4_;have NB158_162:=n5_;have NB162_158:=n6_;clear n0_ n1_ n2_ n3_ n4_ n5_ n6_;clear hb hbox hg;have hnb8:=NB162_158.out;have hnc8:=NB158_162.out;have hcz9_0:w7.cell? ⟨gb162,0,none⟩=some (.int .i64 0):=(zAB BK162.out 0).trans rfl;have hcz9_1:w7.cell? ⟨gb162,1,none⟩=some (.int .u64 0):=(zAB BK162.out 1).trans rfl;have hfz9_0:=zAA BK162.out 0;have hfz9_1:=zAA BK162.out 1)|(refine goesC_ (src:=9) (dst:=38) (some 24) rfl rfl t159 rfl rfl ?_;(with_reducible refine (bytes_of.calls t159 t163 _ A4.out).mono ?_);rintro e w10 ⟨v164,rfl,ho0,hb⟩;refine ⟨_,rfl,?_⟩;have n0_:=aK_ (RB_lower ho0 (zAF (aJ_ HB.out GE158.out GE162.out)));have n1_:=aK_ (zAC (g:=gb158) (o:=.cells #[.int .i64 0,.int .u64 0] 32 (0,0)) (by refine aB_ ?_;refine zAT ?_ NB158_162.out _;refine aB_ ?_;refine zAT ?_ NB158_162.out _;refine aB_ ?_;exact BK158.out) hb);have n2_:=aK_ (zAC (g:=gb162) (o:=.cells #[.int .i64 0,.int .u64 0] 32 (0,0)) (by refine aB_ ?_;refine zAW (cs:=#[.int .i64 0,.int .u64 0]) ?_ 1 _ rfl;refine aB_ ?_;refine zAW (cs:=#[.int .i64 0,.int .u64 0]) ?_ 0 _ rfl;refine aB_ ?_;exact BK162.out) hb);have n3_:=aK_ (zAE (aJ_ HB.out GE158.out GE162.out) hb);clear BK158;clear BK162;clear HB;have HO165:=n0_;have BK158:=n1_;have BK162:=n2_;have HB:=n3_;clear n0_ n1_ n2_ n3_;(try clear hb);(try clear hb2);(try clear hk);(try clear hi);(try clear ho0);obtain ⟨Ao11,co11,eo11⟩:=RB_slice HO165.out;subst eo11))
 (try simp only [Act.put,List.setIfInBounds_toArray,List.set_cons_zero,List.set_cons_succ])
 go_loopg [26] k (fun kq v26 w'=>∃ (x26_1:Int) (x159000_1:Int) (x159001_1:Int) (x163000_1:Int) (x163001_1:Int),v26 = .int .i64 x26_1∧zAG (zAb.l0 kq t160 t163 (t163.length:Int) x26_1 x163000_1 x163001_1=some (r1,r2,r3))∧zAG (kq≤k)∧zAG (RB w' w.heap.size (fun _=>True) (.slice Ao11 t163.length co11) t163)∧zAG (w'.heap[gb158]?=some (.cells #[.int .i64 x159000_1,.int .u64 x159001_1] 32 (0,0)))∧zAG (w'.heap[gb162]?=some (.cells #[.int .i64 x163000_1,.int .u64 x163001_1] 32 (0,0)))∧zAG (Below w.heap.size w w'))
 case atStart=>exact ⟨(0),(0),(0),(0),(0),aS2_,H',⟨Nat.le_refl _⟩,⟨by (with_reducible repeat (first|apply RB_alloc|apply RB_drewN|apply RB_drew));exact HO165.out⟩,⟨aB_ BK158.out⟩,⟨aB_ BK162.out⟩,⟨aJ_ HB.out GE158.out GE162.out⟩⟩
 clear H'
 try clear c1
 try clear p2
 try clear c3
 try clear c7
 try clear c8
 try clear c9
 try clear hcz9_0
 try clear hcz9_1
 try clear hfz9_0
 try clear hfz9_1
 obtain ⟨x26_1,x159000_1,x159001_1,x163000_1,x163001_1,rfl,HA,HK1,HO_24,BK158,BK162,HB⟩:=hrel
 cases gk with
 |zero=>exact absurd HA.out (by simp [zAb.l0])
 |succ k1=>?_
 have H:=HA.out
 clear HA
 simp only [zAb.l0] at H
 by_cases c12:x26_1<(t163.length:Int)
 rotate_left
 ·rw [if_neg c12] at H
  have c12b0:decide (x26_1<(t163.length:Int))=false:=decide_eq_false c12
  clear c12
  simp only [Option.some.injEq,Prod.mk.injEq] at H
  obtain ⟨rfl,rfl,rfl⟩:=H
  have hnb80:=NB162_158.out
  have hnc80:=NB158_162.out
  have hcz81_0:wr.cell? ⟨gb162,0,none⟩=some (.int .i64 x163000_1):=(zAB BK162.out 0).trans rfl
  have hcz81_1:wr.cell? ⟨gb162,1,none⟩=some (.int .u64 x163001_1):=(zAB BK162.out 1).trans rfl
  have hfz81_0:=zAA BK162.out 0
  have hfz81_1:=zAA BK162.out 1
  have hcz82_0:wr.cell? ⟨gb158,0,none⟩=some (.int .i64 x159000_1):=(zAB BK158.out 0).trans rfl
  have hcz82_1:wr.cell? ⟨gb158,1,none⟩=some (.int .u64 x159001_1):=(zAB BK158.out 1).trans rfl
  have hfz82_0:=zAA BK158.out 0
  have hfz82_1:=zAA BK158.out 1
  go_wp2
  refine bodyPost_ret (results_ct rfl _ _ gb158 32 #[.int .i64 x163000_1,.int .u64 x163001_1] (0,0) _ rfl (by refine aB_ ?_;refine zAW (cs:=#[.int .i64 x163000_1,.int .u64 x159001_1]) ?_ 1 _ rfl;refine aB_ ?_;refine zAW (cs:=#[.int .i64 x159000_1,.int .u64 x159001_1]) ?_ 0 _ rfl;refine aB_ ?_;exact BK158.out) Tryz.underlying32 rfl (by kernel_rfl)) rfl ?_
  exact ⟨by first|rfl|(simp [zAP,zAQ] <;> rfl)|(simp [*,zAP,zAQ] <;> rfl),aJ_ HB.out GE158.out GE162.out⟩
 rw [if_pos c12] at H
 have c12b0:decide (x26_1<(t163.length:Int))=true:=decide_eq_true c12
 clear c12
 have c13:=yes_ H
 rw [if_pos c13] at H
 have c13b0:decide (0≤x26_1)=true:=decide_eq_true c13
 clear c13
 have c14:=yes_ H
 rw [if_pos c14] at H
 have c14b0:decide (x26_1<(t163.length:Int))=true:=decide_eq_true c14
 clear c14
 replace H:=Option.bind_eq_some_iff.mp H
 obtain ⟨⟨t167,t168⟩,A150,H⟩:=H
 replace H:(if t160=true then ((wide_Neg.f t167 t168).bind fun bt170=>(zAb.j1 k1 t160 t163 (t163.length:Int) x26_1 x163000_1 x163001_1 bt170.1 bt170.2.1)) else (zAb.j1 k1 t160 t163 (t163.length:Int) x26_1 x163000_1 x163001_1 t167 t168))=some (r1,r2,r3):=H
 have A15:=aK_ A150
 clear A150
 have HC16:=aK_ H
 clear H
 have p166:0≤(x26_1:Int):=aD_
 have q166:x26_1<(t163.length:Int):=aD_
 obtain ⟨ad166,e166,hx166_0⟩:=Kd.at_int (RB_reads' HO_24.out).2.2 x26_1 p166 q166
 cases e166
 replace p166:=eq_true p166
 replace q166:=eq_true q166
 go_upto_if 34 with (first|((with_reducible refine zAM (f:=10) rfl ?_);refine goesL_ (some 33) rfl rfl Tryz.func10 (by kernel_rfl) rfl #[.int .i64 (((rd t163 x26_1) - 48) % 256)] rfl aM_ ?_;(with_reducible refine (wide_Of.calls (((rd t163 x26_1) - 48) % 256) t167 t168 _ A15.out).mono ?_);rintro e w17 ⟨rfl,hb⟩;refine ⟨_,rfl,?_⟩;have n0_:=aK_ (RB_below (by (with_reducible repeat (first|apply RB_alloc|apply RB_drewN|apply RB_drew));exact HO_24.out) hb);have n1_:=aK_ (zAC (g:=gb158) (o:=.cells #[.int .i64 x159000_1,.int .u64 x159001_1] 32 (0,0)) (aB_ BK158.out) hb);have n2_:=aK_ (zAC (g:=gb162) (o:=.cells #[.int .i64 x163000_1,.int .u64 x163001_1] 32 (0,0)) (aB_ BK162.out) hb);have n3_:=aK_ (zAE (aJ_ HB.out GE158.out GE162.out) hb);clear HO_24;clear BK158;clear BK162;clear HB;have HO_24:=n0_;have BK158:=n1_;have BK162:=n2_;have HB:=n3_;clear n0_ n1_ n2_ n3_;(try clear hb);(try clear hb2);(try clear hk);(try clear hi))|((with_reducible refine zAc (N:=10) rfl ?_);refine zAX ?hg (N:=10) ?hd (cs:=#[.int .i64 0,.int .u64 0]) (t:=32) ?hr ?_;(case hd=>rfl);(case hg=>rfl);(case hr=>first|(go_simp;done)|(go_simp;rfl));intro gb169 hg w18 hbox hb;have n0_:=aK_ (RB_below (by (with_reducible repeat (first|apply RB_alloc|apply RB_drewN|apply RB_drew));exact HO_24.out) hb);have n1_:=aK_ (zAC (g:=gb158) (o:=.cells #[.int .i64 x159000_1,.int .u64 x159001_1] 32 (0,0)) (aB_ BK158.out) hb);have n2_:=aK_ (zAC (g:=gb162) (o:=.cells #[.int .i64 x163000_1,.int .u64 x163001_1] 32 (0,0)) (aB_ BK162.out) hb);have n3_:=aK_ (zAE (aJ_ HB.out GE158.out GE162.out) hb);have n4_:=aK_ (hbox);have n5_:=aK_ ((by rw [hg];exact (zAF (aJ_ HB.out GE158.out GE162.out)):w.heap.size≤gb169));have n6_:=aK_ ((by rw [hg];exact (zAF (aJ_ HB.out GE158.out GE162.out)):w.heap.size≤gb169));have n7_:=aK_ ((by rw [hg];exact Nat.ne_of_lt (zAK (g:=gb158) (o:=.cells #[.int .i64 x159000_1,.int .u64 x159001_1] 32 (0,0)) (aB_ BK158.out)):gb158≠gb169));have n8_:=aK_ ((by rw [hg];exact Nat.ne_of_gt (zAK (g:=gb158) (o:=.cells #[.int .i64 x159000_1,.int .u64 x159001_1] 32 (0,0)) (aB_ BK158.out)):gb169≠gb158));have n9_:=aK_ ((by rw [hg];exact Nat.ne_of_lt (zAK (g:=gb162) (o:=.cells #[.int .i64 x163000_1,.int .u64 x163001_1] 32 (0,0)) (aB_ BK162.out)):gb162≠gb169));have n10_:=aK_ ((by rw [hg];exact Nat.ne_of_gt (zAK (g:=gb162) (o:=.cells #[.int .i64 x163000_1,.int .u64 x163001_1] 32 (0,0)) (aB_ BK162.out)):gb169≠gb162));clear HO_24;clear BK158;clear BK162;clear HB;have HO_24:=n0_;have BK158:=n1_;have BK162:=n2_;have HB:=n3_;have BK169:=n4_;have GW169:=n5_;have GE169:=n6_;have NB158_169:=n7_;have NB169_158:=n8_;have NB162_169:=n9_;have NB169_162:=n10_;clear n0_ n1_ n2_ n3_ n4_ n5_ n6_ n7_ n8_ n9_ n10_;clear hb hbox hg;have hnb19:=NB169_158.out;have hnc19:=NB158_169.out;have hnb20:=NB169_162.out;have hnc20:=NB162_169.out;have hcz21_0:w18.cell? ⟨gb169,0,none⟩=some (.int .i64 0):=(zAB BK169.out 0).trans rfl;have hcz21_1:w18.cell? ⟨gb169,1,none⟩=some (.int .u64 0):=(zAB BK169.out 1).trans rfl;have hfz21_0:=zAA BK169.out 0;have hfz21_1:=zAA BK169.out 1))
 (try simp only [Act.put,List.setIfInBounds_toArray,List.set_cons_zero,List.set_cons_succ])
 go_cut [] (fun wc=>∃ (kq:Nat) (x170000_15:Int) (x170001_15:Int),zAG (zAb.j1 kq t160 t163 (t163.length:Int) x26_1 x163000_1 x163001_1 x170000_15 x170001_15=some (r1,r2,r3))∧zAG (kq≤k1)∧zAG (RB wc w.heap.size (fun _=>True) (.slice (some ad166) t163.length co11) t163)∧zAG (wc.heap[gb158]?=some (.cells #[.int .i64 x159000_1,.int .u64 x159001_1] 32 (0,0)))∧zAG (wc.heap[gb162]?=some (.cells #[.int .i64 x163000_1,.int .u64 x163001_1] 32 (0,0)))∧zAG (wc.heap[gb169]?=some (.cells #[.int .i64 x170000_15,.int .u64 x170001_15] 32 (0,0)))∧zAG (Below w.heap.size w wc))
 case first =>
  have H:=HC16.out
  clear HC16
  by_cases c22:t160=true
  rotate_left
  ·replace c22:=Bool.eq_false_iff.mpr c22
   subst c22
   have H1:(zAb.j1 k1 false t163 (t163.length:Int) x26_1 x163000_1 x163001_1 t167 t168)=some (r1,r2,r3):=by rw [if_neg (show ¬ (false=true) by decide)] at H;exact H
   clear H
   have H:=H1
   clear H1
   have H':=aK_ H
   clear H
   go_wp2
   go_meet
   case rel=>exact ⟨_,(t167),(t168),H',⟨by have:=HK1.out;first|omega|exact Nat.le_refl _⟩,⟨by (with_reducible repeat (first|apply RB_alloc|apply RB_drewN|apply RB_drew));exact RB_mono (RB_far (p:=⟨gb169,1,none⟩) (RB_far (p:=⟨gb169,0,none⟩) (RB_types HO_24.out BK169.out (by decide)) (fun _ hk=>hk.2) (.int .i64 t167)) (fun _ hk=>hk.2) (.int .u64 t168)) (fun _ hk=>trivial)⟩,⟨by refine aB_ ?_;refine zAT ?_ NB158_169.out _;refine aB_ ?_;refine zAT ?_ NB158_169.out _;refine aB_ ?_;exact BK158.out⟩,⟨by refine aB_ ?_;refine zAT ?_ NB162_169.out _;refine aB_ ?_;refine zAT ?_ NB162_169.out _;refine aB_ ?_;exact BK162.out⟩,⟨by refine aB_ ?_;refine zAW (cs:=#[.int .i64 t167,.int .u64 0]) ?_ 1 _ rfl;refine aB_ ?_;refine zAW (cs:=#[.int .i64 0,.int .u64 0]) ?_ 0 _ rfl;refine aB_ ?_;exact BK169.out⟩,⟨aQ_ HB.out GE158.out GE162.out GE169.out⟩⟩
  subst c22
  have H1:((wide_Neg.f t167 t168).bind fun bt170=>(zAb.j1 k1 true t163 (t163.length:Int) x26_1 x163000_1 x163001_1 bt170.1 bt170.2.1))=some (r1,r2,r3):=by rw [if_pos rfl] at H;exact H
  clear H
  have H:=H1
  clear H1
  replace H:=Option.bind_eq_some_iff.mp H
  obtain ⟨⟨t170,t171,t172⟩,A230,H⟩:=H
  replace H:(zAb.j1 k1 true t163 (t163.length:Int) x26_1 x163000_1 x163001_1 t170 t171)=some (r1,r2,r3):=H
  have A23:=aK_ A230
  clear A230
  have H':=aK_ H
  clear H
  have hnb24:=NB169_158.out
  have hnc24:=NB158_169.out
  have hnb25:=NB169_162.out
  have hnc25:=NB162_169.out
  have hcz26_0:w18.cell? ⟨gb169,0,none⟩=some (.int .i64 0):=(zAB BK169.out 0).trans rfl
  have hcz26_1:w18.cell? ⟨gb169,1,none⟩=some (.int .u64 0):=(zAB BK169.out 1).trans rfl
  have hfz26_0:=zAA BK169.out 0
  have hfz26_1:=zAA BK169.out 1
  go_wp2_with (first|((with_reducible refine zAM (f:=20) rfl ?_);refine goesL_ (some 37) rfl rfl Tryz.func20 (by kernel_rfl) rfl #[.agg #[.int .i64 t167,.int .u64 t168]] rfl aM_ ?_;(with_reducible refine (wide_Neg.calls t167 t168 t170 t171 t172 _ A23.out).mono ?_);rintro e w27 ⟨rfl,hb⟩;refine ⟨_,rfl,?_⟩;have n0_:=aK_ (RB_below (by (with_reducible repeat (first|apply RB_alloc|apply RB_drewN|apply RB_drew));exact (RB_mono (RB_far (p:=⟨gb169,1,none⟩) (RB_far (p:=⟨gb169,0,none⟩) (RB_types HO_24.out BK169.out (by decide)) (fun _ hk=>hk.2) (.int .i64 t167)) (fun _ hk=>hk.2) (.int .u64 t168)) (fun _ h_=>h_.1))) hb);have n1_:=aK_ (zAC (g:=gb158) (o:=.cells #[.int .i64 x159000_1,.int .u64 x159001_1] 32 (0,0)) (by refine aB_ ?_;refine zAT ?_ NB158_169.out _;refine aB_ ?_;refine zAT ?_ NB158_169.out _;refine aB_ ?_;exact BK158.out) hb);have n2_:=aK_ (zAC (g:=gb162) (o:=.cells #[.int .i64 x163000_1,.int .u64 x163001_1] 32 (0,0)) (by refine aB_ ?_;refine zAT ?_ NB162_169.out _;refine aB_ ?_;refine zAT ?_ NB162_169.out _;refine aB_ ?_;exact BK162.out) hb);have n3_:=aK_ (zAC (g:=gb169) (o:=.cells #[.int .i64 t167,.int .u64 t168] 32 (0,0)) (by refine aB_ ?_;refine zAW (cs:=#[.int .i64 t167,.int .u64 0]) ?_ 1 _ rfl;refine aB_ ?_;refine zAW (cs:=#[.int .i64 0,.int .u64 0]) ?_ 0 _ rfl;refine aB_ ?_;exact BK169.out) hb);have n4_:=aK_ (zAE (aQ_ HB.out GE158.out GE162.out GE169.out) hb);clear HO_24;clear BK158;clear BK162;clear BK169;clear HB;have HO_24:=n0_;have BK158:=n1_;have BK162:=n2_;have BK169:=n3_;have HB:=n4_;clear n0_ n1_ n2_ n3_ n4_;(try clear hb);(try clear hb2);(try clear hk);(try clear hi);have hcz28_0:w27.cell? ⟨gb169,0,none⟩=some (.int .i64 t167):=(zAB BK169.out 0).trans rfl;have hcz28_1:w27.cell? ⟨gb169,1,none⟩=some (.int .u64 t168):=(zAB BK169.out 1).trans rfl;have hfz28_0:=zAA BK169.out 0;have hfz28_1:=zAA BK169.out 1))
  go_meet
  case rel=>exact ⟨_,(t170),(t171),H',⟨by have:=HK1.out;first|omega|exact Nat.le_refl _⟩,⟨by (with_reducible repeat (first|apply RB_alloc|apply RB_drewN|apply RB_drew));exact RB_mono (RB_far (p:=⟨gb169,1,none⟩) (RB_far (p:=⟨gb169,0,none⟩) (RB_types HO_24.out BK169.out (by decide)) (fun _ hk=>hk.2) (.int .i64 t170)) (fun _ hk=>hk.2) (.int .u64 t171)) (fun _ hk=>trivial)⟩,⟨by refine aB_ ?_;refine zAT ?_ NB158_169.out _;refine aB_ ?_;refine zAT ?_ NB158_169.out _;refine aB_ ?_;exact BK158.out⟩,⟨by refine aB_ ?_;refine zAT ?_ NB162_169.out _;refine aB_ ?_;refine zAT ?_ NB162_169.out _;refine aB_ ?_;exact BK162.out⟩,⟨by refine aB_ ?_;refine zAW (cs:=#[.int .i64 t170,.int .u64 t168]) ?_ 1 _ rfl;refine aB_ ?_;refine zAW (cs:=#[.int .i64 t167,.int .u64 t168]) ?_ 0 _ rfl;refine aB_ ?_;exact BK169.out⟩,⟨aQ_ HB.out GE158.out GE162.out GE169.out⟩⟩
 clear HC16
 try clear c1
 try clear p1
 try clear q1
 try clear hx1
 try clear c2
 try clear p2
 try clear c3
 try clear c7
 try clear c8
 try clear c9
 try clear c10
 try clear c12
 try clear c12b0
 try clear c13
 try clear c13b0
 try clear c14
 try clear c14b0
 try clear c15
 try clear p16
 try clear q16
 try clear hx16
 try clear c19
 try clear c20
 try clear c22
 try clear c24
 try clear c25
 try clear hcz21_0
 try clear hcz21_1
 try clear hcz26_0
 try clear hcz26_1
 try clear hcz28_0
 try clear hcz28_1
 try clear hcz9_0
 try clear hcz9_1
 try clear hfz21_0
 try clear hfz21_1
 try clear hfz26_0
 try clear hfz26_1
 try clear hfz28_0
 try clear hfz28_1
 try clear hfz9_0
 try clear hfz9_1
 try clear hx166_0
 try clear p166
 try clear p2
 try clear q166
 obtain ⟨kq,x170000_15,x170001_15,HA,HJ15,HO_24,BK158,BK162,BK169,HB⟩:=hcut
 cases kq with
 |zero=>exact absurd HA.out (by simp [zAb.j1])
 |succ kj15=>?_
 have H:=HA.out
 clear HA
 simp only [zAb.j1] at H
 replace H:=Option.bind_eq_some_iff.mp H
 obtain ⟨⟨t173,t174⟩,A290,H⟩:=H
 replace H:((times_Mul.f kj15 x163000_1 x163001_1 t173 t174).bind fun bt175=>(if bt175.2.2=0 then ((wide_Add.f bt175.1 bt175.2.1 x170000_15 x170001_15).bind fun bt179=>(if bt179.2.2=0 then (zAb.l0 kj15 t160 t163 (t163.length:Int) (wrap64 (x26_1+1)) bt179.1 bt179.2.1) else (some (0,0,bt179.2.2)))) else (some (0,0,bt175.2.2))))=some (r1,r2,r3):=H
 have A29:=aK_ A290
 clear A290
 replace H:=Option.bind_eq_some_iff.mp H
 obtain ⟨⟨t175,t176,t177⟩,A300,H⟩:=H
 replace H:(if t177=0 then ((wide_Add.f t175 t176 x170000_15 x170001_15).bind fun bt179=>(if bt179.2.2=0 then (zAb.l0 kj15 t160 t163 (t163.length:Int) (wrap64 (x26_1+1)) bt179.1 bt179.2.1) else (some (0,0,bt179.2.2)))) else (some (0,0,t177)))=some (r1,r2,r3):=H
 have A30:=aK_ A300
 clear A300
 by_cases c31:t177=0
 rotate_left
 ·rw [if_neg c31] at H
  have c31b0:(t177 == 0)=false:=beq_eq_false_iff_ne.mpr c31
  have c31b1:(t177 != 0)=true:=bne_iff_ne.mpr c31
  simp only [Option.some.injEq,Prod.mk.injEq] at H
  obtain ⟨rfl,rfl,rfl⟩:=H
  try go_wp2
  have n0_:=aK_ (RB_drew HO_24.out)
  have n1_:=aK_ (blk_drew BK158.out)
  have n2_:=aK_ (blk_drew BK162.out)
  have n3_:=aK_ (blk_drew BK169.out)
  have n4_:=aK_ (below_drew1 HB.out)
  clear HO_24
  clear BK158
  clear BK162
  clear BK169
  clear HB
  have HO_24:=n0_
  have BK158:=n1_
  have BK162:=n2_
  have BK169:=n3_
  have HB:=n4_
  clear n0_ n1_ n2_ n3_ n4_
  refine start_ (n:=9) (S:=fun w'=>w'.cell? ⟨gb162,0,none⟩=some (.int .i64 x163000_1)∧w'.cell? ⟨gb162,1,none⟩=some (.int .u64 x163001_1)) (ds:=[]) #[false,false,false,false,false,false,false,false,false] (by kernel_rfl) rfl rfl ⟨(zAB BK162.out 0).trans rfl,(zAB BK162.out 1).trans rfl⟩ (fun hHeld=>?_);refine with_tabW zAb.tab11 zAb.bits11 (fun HT_ HW_=>?_)
  generalize wc.drew=w69 at HO_24 BK158 BK162 BK169 HB hHeld ⊢
  refine take_ (i:=0) (N:=some 41) (v:=?_) (a':=?_) #[true,false,false,false,false,false,false,false,false] rfl rfl (take_ofW HT_.out HW_.out (by kernel_rfl)) (fun _ _ _ h=>h) (Or.inl ⟨by rfl,?_⟩) hHeld ?_ ?_
  rotate_left
  ·rintro w' ⟨s0,s1⟩
   go_simp
   with_reducible rfl
  rotate_left
  ·simp only [Act.put,List.setIfInBounds_toArray,List.set_cons_zero,List.set_cons_succ,zAO,zAR]
   rfl
  refine join_ (σ:=Nat) 2 #[true,true,true,true,true,true,true,false,false] (fun s_=>[(42,.agg #[.int .i64 t173,.int .u64 t174]),(43,.tuple #[.agg #[.int .i64 t175,.int .u64 t176],.int .i64 t177]),(11,.pointer (some ⟨s_,0,none⟩)),(40,.tuple #[.agg #[.int .i64 t175,.int .u64 t176],.int .i64 t177]),(44,.agg #[.int .i64 t175,.int .u64 t176]),(45,.int .i64 t177)]) (fun s_ w'=>(w'.cell? ⟨gb162,0,none⟩=some (.int .i64 x163000_1)∧w'.cell? ⟨gb162,1,none⟩=some (.int .u64 x163001_1))∧(RB w' w.heap.size (fun _=>True) (.slice (some ad166) t163.length co11) t163)∧(w'.heap[gb158]?=some (.cells #[.int .i64 x159000_1,.int .u64 x159001_1] 32 (0,0)))∧(w'.heap[gb162]?=some (.cells #[.int .i64 x163000_1,.int .u64 x163001_1] 32 (0,0)))∧(w'.heap[gb169]?=some (.cells #[.int .i64 x170000_15,.int .u64 x170001_15] 32 (0,0)))∧(w'.heap[s_]?=some (.cells #[.int .i64 0,.int .u64 0] 32 (0,0)))∧(w.heap.size≤s_)∧(w.heap.size≤s_)∧(gb158≠s_)∧(s_≠gb158)∧(gb162≠s_)∧(s_≠gb162)∧(gb169≠s_)∧(s_≠gb169)∧(Below w.heap.size w w')) ?_ ?_
  rotate_left
  ·intro hCont
   refine two_ (i:=1) (j:=6) (Ni:=some 42) (Nj:=some 11) #[true,true,false,false,false,false,false,false,false] #[true,false,false,false,false,false,true,false,false] rfl rfl rfl rfl (two_of HT_.out (by kernel_rfl)) (by decide) (by decide) (fun K hK=>?_) (fun K hK=>?_)
   ·skip
    refine goes_ Tryz.func10 (by kernel_rfl) rfl #[.int .i64 10] (by rfl) rfl rfl aM_ ?_
    with_reducible refine (wide_Of.calls 10 t173 t174 _ A29.out).mono ?_
    rintro e w70 ⟨rfl,hb⟩
    refine ⟨_,rfl,?_⟩
    have n0_:=aK_ (RB_below (by (with_reducible repeat (first|apply RB_alloc|apply RB_drewN|apply RB_drew));exact HO_24.out) hb)
    have n1_:=aK_ (zAC (g:=gb158) (o:=.cells #[.int .i64 x159000_1,.int .u64 x159001_1] 32 (0,0)) (aB_ BK158.out) hb)
    have n2_:=aK_ (zAC (g:=gb162) (o:=.cells #[.int .i64 x163000_1,.int .u64 x163001_1] 32 (0,0)) (aB_ BK162.out) hb)
    have n3_:=aK_ (zAC (g:=gb169) (o:=.cells #[.int .i64 x170000_15,.int .u64 x170001_15] 32 (0,0)) (aB_ BK169.out) hb)
    have n4_:=aK_ (zAE (aQ_ HB.out GE158.out GE162.out GE169.out) hb)
    clear HO_24
    clear BK158
    clear BK162
    clear BK169
    clear HB
    have HO_24:=n0_
    have BK158:=n1_
    have BK162:=n2_
    have BK169:=n3_
    have HB:=n4_
    clear n0_ n1_ n2_ n3_ n4_
    (try clear hb)
    (try clear hb2)
    (try clear hk)
    (try clear hi)
    refine hK.out _ _ ⟨(zAB BK162.out 0).trans rfl,(zAB BK162.out 1).trans rfl⟩ (fun hHeld=>?_)
    clear hK K
    refine norm_ (a':=?_) ?_ ?_
    rotate_left
    ·show Act.put _ (some 42) _=_
     simp only [Act.put,List.setIfInBounds_toArray,List.set_cons_zero,List.set_cons_succ,zAO,zAR]
     rfl
    refine two_ (i:=2) (j:=6) (Ni:=some 43) (Nj:=some 11) #[true,true,true,false,false,false,false,false,false] #[true,true,false,false,false,false,true,false,false] rfl rfl rfl rfl (two_of HT_.out (by kernel_rfl)) (by decide) (by decide) (fun K hK=>?_) (fun K hK=>?_)
    ·skip
     refine goes_ Tryz.func21 (by kernel_rfl) rfl #[.agg #[.int .i64 x163000_1,.int .u64 x163001_1],.agg #[.int .i64 t173,.int .u64 t174]] (by rfl) rfl rfl aM_ ?_
     with_reducible refine (times_Mul.calls kj15 x163000_1 x163001_1 t173 t174 t175 t176 t177 _ A30.out).mono ?_
     rintro e w71 ⟨rfl,hb⟩
     refine ⟨_,rfl,?_⟩
     have n0_:=aK_ (RB_below (by (with_reducible repeat (first|apply RB_alloc|apply RB_drewN|apply RB_drew));exact HO_24.out) hb)
     have n1_:=aK_ (zAC (g:=gb158) (o:=.cells #[.int .i64 x159000_1,.int .u64 x159001_1] 32 (0,0)) (aB_ BK158.out) hb)
     have n2_:=aK_ (zAC (g:=gb162) (o:=.cells #[.int .i64 x163000_1,.int .u64 x163001_1] 32 (0,0)) (aB_ BK162.out) hb)
     have n3_:=aK_ (zAC (g:=gb169) (o:=.cells #[.int .i64 x170000_15,.int .u64 x170001_15] 32 (0,0)) (aB_ BK169.out) hb)
     have n4_:=aK_ (zAE (aQ_ HB.out GE158.out GE162.out GE169.out) hb)
     clear HO_24
     clear BK158
     clear BK162
     clear BK169
     clear HB
     have HO_24:=n0_
     have BK158:=n1_
     have BK162:=n2_
     have BK169:=n3_
     have HB:=n4_
     clear n0_ n1_ n2_ n3_ n4_
     (try clear hb)
     (try clear hb2)
     (try clear hk)
     (try clear hi)
     refine hK.out _ _ ⟨(zAB BK162.out 0).trans rfl,(zAB BK162.out 1).trans rfl⟩ (fun hHeld=>?_)
     clear hK K
     refine norm_ (a':=?_) ?_ ?_
     rotate_left
     ·show Act.put _ (some 43) _=_
      simp only [Act.put,List.setIfInBounds_toArray,List.set_cons_zero,List.set_cons_succ,zAO,zAR]
      rfl
     refine zAa (i:=3) (N:=some 40) (v:=?_) (a':=?_) #[true,true,true,true,false,false,false,false,false] rfl rfl (zAN HT_.out (by kernel_rfl)) (fun _ _ _ h=>h) (Or.inl ⟨by rfl,?_⟩) ?_ ?_
     rotate_left
     ·intro w'
      go_simp
      with_reducible rfl
     rotate_left
     ·simp only [Act.put,List.setIfInBounds_toArray,List.set_cons_zero,List.set_cons_succ,zAO,zAR]
      rfl
     refine zAa (i:=4) (N:=some 44) (v:=?_) (a':=?_) #[true,true,true,true,true,false,false,false,false] rfl rfl (zAN HT_.out (by kernel_rfl)) (fun _ _ _ h=>h) (Or.inl ⟨by rfl,?_⟩) ?_ ?_
     rotate_left
     ·intro w'
      go_simp
      with_reducible rfl
     rotate_left
     ·simp only [Act.put,List.setIfInBounds_toArray,List.set_cons_zero,List.set_cons_succ,zAO,zAR]
      rfl
     refine zAa (i:=5) (N:=some 45) (v:=?_) (a':=?_) #[true,true,true,true,true,true,false,false,false] rfl rfl (zAN HT_.out (by kernel_rfl)) (fun _ _ _ h=>h) (Or.inl ⟨by rfl,?_⟩) ?_ ?_
     rotate_left
     ·intro w'
      go_simp
      with_reducible rfl
     rotate_left
     ·simp only [Act.put,List.setIfInBounds_toArray,List.set_cons_zero,List.set_cons_succ,zAO,zAR]
      rfl
     refine one_ (i:=6) (N:=some 11) #[true,true,true,true,true,true,true,false,false] rfl rfl (one_of HT_.out (by kernel_rfl)) (by decide) (fun K hK=>?_)
     refine box_step ?hg (N:=11) ?hd (cs:=#[.int .i64 0,.int .u64 0]) (t:=32) ?hr ?_;(case hd=>rfl);(case hg=>rfl);(case hr=>first|(go_simp;done)|(go_simp;rfl))
     intro gb178 hg w72 hbox hb
     have n0_:=aK_ (RB_below (by (with_reducible repeat (first|apply RB_alloc|apply RB_drewN|apply RB_drew));exact HO_24.out) hb)
     have n1_:=aK_ (zAC (g:=gb158) (o:=.cells #[.int .i64 x159000_1,.int .u64 x159001_1] 32 (0,0)) (aB_ BK158.out) hb)
     have n2_:=aK_ (zAC (g:=gb162) (o:=.cells #[.int .i64 x163000_1,.int .u64 x163001_1] 32 (0,0)) (aB_ BK162.out) hb)
     have n3_:=aK_ (zAC (g:=gb169) (o:=.cells #[.int .i64 x170000_15,.int .u64 x170001_15] 32 (0,0)) (aB_ BK169.out) hb)
     have n4_:=aK_ (zAE (aQ_ HB.out GE158.out GE162.out GE169.out) hb)
     have n5_:=aK_ (hbox)
     have n6_:=aK_ ((by rw [hg];exact (zAF (aQ_ HB.out GE158.out GE162.out GE169.out)):w.heap.size≤gb178))
     have n7_:=aK_ ((by rw [hg];exact (zAF (aQ_ HB.out GE158.out GE162.out GE169.out)):w.heap.size≤gb178))
     have n8_:=aK_ ((by rw [hg];exact Nat.ne_of_lt (zAK (g:=gb158) (o:=.cells #[.int .i64 x159000_1,.int .u64 x159001_1] 32 (0,0)) (aB_ BK158.out)):gb158≠gb178))
     have n9_:=aK_ ((by rw [hg];exact Nat.ne_of_gt (zAK (g:=gb158) (o:=.cells #[.int .i64 x159000_1,.int .u64 x159001_1] 32 (0,0)) (aB_ BK158.out)):gb178≠gb158))
     have n10_:=aK_ ((by rw [hg];exact Nat.ne_of_lt (zAK (g:=gb162) (o:=.cells #[.int .i64 x163000_1,.int .u64 x163001_1] 32 (0,0)) (aB_ BK162.out)):gb162≠gb178))
     have n11_:=aK_ ((by rw [hg];exact Nat.ne_of_gt (zAK (g:=gb162) (o:=.cells #[.int .i64 x163000_1,.int .u64 x163001_1] 32 (0,0)) (aB_ BK162.out)):gb178≠gb162))
     have n12_:=aK_ ((by rw [hg];exact Nat.ne_of_lt (zAK (g:=gb169) (o:=.cells #[.int .i64 x170000_15,.int .u64 x170001_15] 32 (0,0)) (aB_ BK169.out)):gb169≠gb178))
     have n13_:=aK_ ((by rw [hg];exact Nat.ne_of_gt (zAK (g:=gb169) (o:=.cells #[.int .i64 x170000_15,.int .u64 x170001_15] 32 (0,0)) (aB_ BK169.out)):gb178≠gb169))
     clear HO_24
     clear BK158
     clear BK162
     clear BK169
     clear HB
     have HO_24:=n0_
     have BK158:=n1_
     have BK162:=n2_
     have BK169:=n3_
     have HB:=n4_
     have BK178:=n5_
     have GW178:=n6_
     have GE178:=n7_
     have NB158_178:=n8_
     have NB178_158:=n9_
     have NB162_178:=n10_
     have NB178_162:=n11_
     have NB169_178:=n12_
     have NB178_169:=n13_
     clear n0_ n1_ n2_ n3_ n4_ n5_ n6_ n7_ n8_ n9_ n10_ n11_ n12_ n13_
     clear hb hbox hg
     refine hK.out _ _ ⟨(zAB BK162.out 0).trans rfl,(zAB BK162.out 1).trans rfl⟩ (fun hHeld=>?_)
     clear hK K
     refine norm_ (a':=?_) ?_ ?_
     rotate_left
     ·show Act.put _ (some 11) _=_
      simp only [Act.put,List.setIfInBounds_toArray,List.set_cons_zero,List.set_cons_succ,zAO,zAR]
      rfl
     exact norm_ (by simp only [putAll,Act.put,List.setIfInBounds_toArray,List.set_cons_zero,List.set_cons_succ]) (hCont (gb178) _ ⟨hHeld,(by (with_reducible repeat (first|apply RB_alloc|apply RB_drewN|apply RB_drew));exact HO_24.out),(aB_ BK158.out),(aB_ BK162.out),(aB_ BK169.out),(aB_ BK178.out),GW178.out,GE178.out,NB158_178.out,NB178_158.out,NB162_178.out,NB178_162.out,NB169_178.out,NB178_169.out,(aU_ HB.out GE158.out GE162.out GE169.out GE178.out)⟩)
    ·skip
     refine box_step ?hg (N:=11) ?hd (cs:=#[.int .i64 0,.int .u64 0]) (t:=32) ?hr ?_;(case hd=>rfl);(case hg=>rfl);(case hr=>first|(go_simp;done)|(go_simp;rfl))
     intro gb178 hg w71 hbox hb
     have n0_:=aK_ (RB_below (by (with_reducible repeat (first|apply RB_alloc|apply RB_drewN|apply RB_drew));exact HO_24.out) hb)
     have n1_:=aK_ (zAC (g:=gb158) (o:=.cells #[.int .i64 x159000_1,.int .u64 x159001_1] 32 (0,0)) (aB_ BK158.out) hb)
     have n2_:=aK_ (zAC (g:=gb162) (o:=.cells #[.int .i64 x163000_1,.int .u64 x163001_1] 32 (0,0)) (aB_ BK162.out) hb)
     have n3_:=aK_ (zAC (g:=gb169) (o:=.cells #[.int .i64 x170000_15,.int .u64 x170001_15] 32 (0,0)) (aB_ BK169.out) hb)
     have n4_:=aK_ (zAE (aQ_ HB.out GE158.out GE162.out GE169.out) hb)
     have n5_:=aK_ (hbox)
     have n6_:=aK_ ((by rw [hg];exact (zAF (aQ_ HB.out GE158.out GE162.out GE169.out)):w.heap.size≤gb178))
     have n7_:=aK_ ((by rw [hg];exact (zAF (aQ_ HB.out GE158.out GE162.out GE169.out)):w.heap.size≤gb178))
     have n8_:=aK_ ((by rw [hg];exact Nat.ne_of_lt (zAK (g:=gb158) (o:=.cells #[.int .i64 x159000_1,.int .u64 x159001_1] 32 (0,0)) (aB_ BK158.out)):gb158≠gb178))
     have n9_:=aK_ ((by rw [hg];exact Nat.ne_of_gt (zAK (g:=gb158) (o:=.cells #[.int .i64 x159000_1,.int .u64 x159001_1] 32 (0,0)) (aB_ BK158.out)):gb178≠gb158))
     have n10_:=aK_ ((by rw [hg];exact Nat.ne_of_lt (zAK (g:=gb162) (o:=.cells #[.int .i64 x163000_1,.int .u64 x163001_1] 32 (0,0)) (aB_ BK162.out)):gb162≠gb178))
     have n11_:=aK_ ((by rw [hg];exact Nat.ne_of_gt (zAK (g:=gb162) (o:=.cells #[.int .i64 x163000_1,.int .u64 x163001_1] 32 (0,0)) (aB_ BK162.out)):gb178≠gb162))
     have n12_:=aK_ ((by rw [hg];exact Nat.ne_of_lt (zAK (g:=gb169) (o:=.cells #[.int .i64 x170000_15,.int .u64 x170001_15] 32 (0,0)) (aB_ BK169.out)):gb169≠gb178))
     have n13_:=aK_ ((by rw [hg];exact Nat.ne_of_gt (zAK (g:=gb169) (o:=.cells #[.int .i64 x170000_15,.int .u64 x170001_15] 32 (0,0)) (aB_ BK169.out)):gb178≠gb169))
     clear HO_24
     clear BK158
     clear BK162
     clear BK169
     clear HB
     have HO_24:=n0_
     have BK158:=n1_
     have BK162:=n2_
     have BK169:=n3_
     have HB:=n4_
     have BK178:=n5_
     have GW178:=n6_
     have GE178:=n7_
     have NB158_178:=n8_
     have NB178_158:=n9_
     have NB162_178:=n10_
     have NB178_162:=n11_
     have NB169_178:=n12_
     have NB178_169:=n13_
     clear n0_ n1_ n2_ n3_ n4_ n5_ n6_ n7_ n8_ n9_ n10_ n11_ n12_ n13_
     clear hb hbox hg
     refine hK.out _ _ ⟨(zAB BK162.out 0).trans rfl,(zAB BK162.out 1).trans rfl⟩ (fun hHeld=>?_)
     clear hK K
     refine norm_ (a':=?_) ?_ ?_
     rotate_left
     ·show Act.put _ (some 11) _=_
      simp only [Act.put,List.setIfInBounds_toArray,List.set_cons_zero,List.set_cons_succ,zAO,zAR]
      rfl
     refine one_ (i:=2) (N:=some 43) #[true,true,true,false,false,false,true,false,false] rfl rfl (one_of HT_.out (by kernel_rfl)) (by decide) (fun K hK=>?_)
     refine goes_ Tryz.func21 (by kernel_rfl) rfl #[.agg #[.int .i64 x163000_1,.int .u64 x163001_1],.agg #[.int .i64 t173,.int .u64 t174]] (by rfl) rfl rfl aM_ ?_
     with_reducible refine (times_Mul.calls kj15 x163000_1 x163001_1 t173 t174 t175 t176 t177 _ A30.out).mono ?_
     rintro e w72 ⟨rfl,hb⟩
     refine ⟨_,rfl,?_⟩
     have n0_:=aK_ (RB_below (by (with_reducible repeat (first|apply RB_alloc|apply RB_drewN|apply RB_drew));exact HO_24.out) hb)
     have n1_:=aK_ (zAC (g:=gb158) (o:=.cells #[.int .i64 x159000_1,.int .u64 x159001_1] 32 (0,0)) (aB_ BK158.out) hb)
     have n2_:=aK_ (zAC (g:=gb162) (o:=.cells #[.int .i64 x163000_1,.int .u64 x163001_1] 32 (0,0)) (aB_ BK162.out) hb)
     have n3_:=aK_ (zAC (g:=gb169) (o:=.cells #[.int .i64 x170000_15,.int .u64 x170001_15] 32 (0,0)) (aB_ BK169.out) hb)
     have n4_:=aK_ (zAC (g:=gb178) (o:=.cells #[.int .i64 0,.int .u64 0] 32 (0,0)) (aB_ BK178.out) hb)
     have n5_:=aK_ (zAE (aU_ HB.out GE158.out GE162.out GE169.out GE178.out) hb)
     clear HO_24
     clear BK158
     clear BK162
     clear BK169
     clear BK178
     clear HB
     have HO_24:=n0_
     have BK158:=n1_
     have BK162:=n2_
     have BK169:=n3_
     have BK178:=n4_
     have HB:=n5_
     clear n0_ n1_ n2_ n3_ n4_ n5_
     (try clear hb)
     (try clear hb2)
     (try clear hk)
     (try clear hi)
     refine hK.out _ _ ⟨(zAB BK162.out 0).trans rfl,(zAB BK162.out 1).trans rfl⟩ (fun hHeld=>?_)
     clear hK K
     refine norm_ (a':=?_) ?_ ?_
     rotate_left
     ·show Act.put _ (some 43) _=_
      simp only [Act.put,List.setIfInBounds_toArray,List.set_cons_zero,List.set_cons_succ,zAO,zAR]
      rfl
     refine zAa (i:=3) (N:=some 40) (v:=?_) (a':=?_) #[true,true,true,true,false,false,true,false,false] rfl rfl (zAN HT_.out (by kernel_rfl)) (fun _ _ _ h=>h) (Or.inl ⟨by rfl,?_⟩) ?_ ?_
     rotate_left
     ·intro w'
      go_simp
      with_reducible rfl
     rotate_left
     ·simp only [Act.put,List.setIfInBounds_toArray,List.set_cons_zero,List.set_cons_succ,zAO,zAR]
      rfl
     refine zAa (i:=4) (N:=some 44) (v:=?_) (a':=?_) #[true,true,true,true,true,false,true,false,false] rfl rfl (zAN HT_.out (by kernel_rfl)) (fun _ _ _ h=>h) (Or.inl ⟨by rfl,?_⟩) ?_ ?_
     rotate_left
     ·intro w'
      go_simp
      with_reducible rfl
     rotate_left
     ·simp only [Act.put,List.setIfInBounds_toArray,List.set_cons_zero,List.set_cons_succ,zAO,zAR]
      rfl
     refine zAa (i:=5) (N:=some 45) (v:=?_) (a':=?_) #[true,true,true,true,true,true,true,false,false] rfl rfl (zAN HT_.out (by kernel_rfl)) (fun _ _ _ h=>h) (Or.inl ⟨by rfl,?_⟩) ?_ ?_
     rotate_left
     ·intro w'
      go_simp
      with_reducible rfl
     rotate_left
     ·simp only [Act.put,List.setIfInBounds_toArray,List.set_cons_zero,List.set_cons_succ,zAO,zAR]
      rfl
     exact norm_ (by simp only [putAll,Act.put,List.setIfInBounds_toArray,List.set_cons_zero,List.set_cons_succ]) (hCont (gb178) _ ⟨hHeld,(by (with_reducible repeat (first|apply RB_alloc|apply RB_drewN|apply RB_drew));exact HO_24.out),(aB_ BK158.out),(aB_ BK162.out),(aB_ BK169.out),(aB_ BK178.out),GW178.out,GE178.out,NB158_178.out,NB178_158.out,NB162_178.out,NB178_162.out,NB169_178.out,NB178_169.out,(aU_ HB.out GE158.out GE162.out GE169.out GE178.out)⟩)
   ·skip
    refine box_step ?hg (N:=11) ?hd (cs:=#[.int .i64 0,.int .u64 0]) (t:=32) ?hr ?_;(case hd=>rfl);(case hg=>rfl);(case hr=>first|(go_simp;done)|(go_simp;rfl))
    intro gb178 hg w70 hbox hb
    have n0_:=aK_ (RB_below (by (with_reducible repeat (first|apply RB_alloc|apply RB_drewN|apply RB_drew));exact HO_24.out) hb)
    have n1_:=aK_ (zAC (g:=gb158) (o:=.cells #[.int .i64 x159000_1,.int .u64 x159001_1] 32 (0,0)) (aB_ BK158.out) hb)
    have n2_:=aK_ (zAC (g:=gb162) (o:=.cells #[.int .i64 x163000_1,.int .u64 x163001_1] 32 (0,0)) (aB_ BK162.out) hb)
    have n3_:=aK_ (zAC (g:=gb169) (o:=.cells #[.int .i64 x170000_15,.int .u64 x170001_15] 32 (0,0)) (aB_ BK169.out) hb)
    have n4_:=aK_ (zAE (aQ_ HB.out GE158.out GE162.out GE169.out) hb)
    have n5_:=aK_ (hbox)
    have n6_:=aK_ ((by rw [hg];exact (zAF (aQ_ HB.out GE158.out GE162.out GE169.out)):w.heap.size≤gb178))
    have n7_:=aK_ ((by rw [hg];exact (zAF (aQ_ HB.out GE158.out GE162.out GE169.out)):w.heap.size≤gb178))
    have n8_:=aK_ ((by rw [hg];exact Nat.ne_of_lt (zAK (g:=gb158) (o:=.cells #[.int .i64 x159000_1,.int .u64 x159001_1] 32 (0,0)) (aB_ BK158.out)):gb158≠gb178))
    have n9_:=aK_ ((by rw [hg];exact Nat.ne_of_gt (zAK (g:=gb158) (o:=.cells #[.int .i64 x159000_1,.int .u64 x159001_1] 32 (0,0)) (aB_ BK158.out)):gb178≠gb158))
    have n10_:=aK_ ((by rw [hg];exact Nat.ne_of_lt (zAK (g:=gb162) (o:=.cells #[.int .i64 x163000_1,.int .u64 x163001_1] 32 (0,0)) (aB_ BK162.out)):gb162≠gb178))
    have n11_:=aK_ ((by rw [hg];exact Nat.ne_of_gt (zAK (g:=gb162) (o:=.cells #[.int .i64 x163000_1,.int .u64 x163001_1] 32 (0,0)) (aB_ BK162.out)):gb178≠gb162))
    have n12_:=aK_ ((by rw [hg];exact Nat.ne_of_lt (zAK (g:=gb169) (o:=.cells #[.int .i64 x170000_15,.int .u64 x170001_15] 32 (0,0)) (aB_ BK169.out)):gb169≠gb178))
    have n13_:=aK_ ((by rw [hg];exact Nat.ne_of_gt (zAK (g:=gb169) (o:=.cells #[.int .i64 x170000_15,.int .u64 x170001_15] 32 (0,0)) (aB_ BK169.out)):gb178≠gb169))
    clear HO_24
    clear BK158
    clear BK162
    clear BK169
    clear HB
    have HO_24:=n0_
    have BK158:=n1_
    have BK162:=n2_
    have BK169:=n3_
    have HB:=n4_
    have BK178:=n5_
    have GW178:=n6_
    have GE178:=n7_
    have NB158_178:=n8_
    have NB178_158:=n9_
    have NB162_178:=n10_
    have NB178_162:=n11_
    have NB169_178:=n12_
    have NB178_169:=n13_
    clear n0_ n1_ n2_ n3_ n4_ n5_ n6_ n7_ n8_ n9_ n10_ n11_ n12_ n13_
    clear hb hbox hg
    refine hK.out _ _ ⟨(zAB BK162.out 0).trans rfl,(zAB BK162.out 1).trans rfl⟩ (fun hHeld=>?_)
    clear hK K
    refine norm_ (a':=?_) ?_ ?_
    rotate_left
    ·show Act.put _ (some 11) _=_
     simp only [Act.put,List.setIfInBounds_toArray,List.set_cons_zero,List.set_cons_succ,zAO,zAR]
     rfl
    refine one_ (i:=1) (N:=some 42) #[true,true,false,false,false,false,true,false,false] rfl rfl (one_of HT_.out (by kernel_rfl)) (by decide) (fun K hK=>?_)
    refine goes_ Tryz.func10 (by kernel_rfl) rfl #[.int .i64 10] (by rfl) rfl rfl aM_ ?_
    with_reducible refine (wide_Of.calls 10 t173 t174 _ A29.out).mono ?_
    rintro e w71 ⟨rfl,hb⟩
    refine ⟨_,rfl,?_⟩
    have n0_:=aK_ (RB_below (by (with_reducible repeat (first|apply RB_alloc|apply RB_drewN|apply RB_drew));exact HO_24.out) hb)
    have n1_:=aK_ (zAC (g:=gb158) (o:=.cells #[.int .i64 x159000_1,.int .u64 x159001_1] 32 (0,0)) (aB_ BK158.out) hb)
    have n2_:=aK_ (zAC (g:=gb162) (o:=.cells #[.int .i64 x163000_1,.int .u64 x163001_1] 32 (0,0)) (aB_ BK162.out) hb)
    have n3_:=aK_ (zAC (g:=gb169) (o:=.cells #[.int .i64 x170000_15,.int .u64 x170001_15] 32 (0,0)) (aB_ BK169.out) hb)
    have n4_:=aK_ (zAC (g:=gb178) (o:=.cells #[.int .i64 0,.int .u64 0] 32 (0,0)) (aB_ BK178.out) hb)
    have n5_:=aK_ (zAE (aU_ HB.out GE158.out GE162.out GE169.out GE178.out) hb)
    clear HO_24
    clear BK158
    clear BK162
    clear BK169
    clear BK178
    clear HB
    have HO_24:=n0_
    have BK158:=n1_
    have BK162:=n2_
    have BK169:=n3_
    have BK178:=n4_
    have HB:=n5_
    clear n0_ n1_ n2_ n3_ n4_ n5_
    (try clear hb)
    (try clear hb2)
    (try clear hk)
    (try clear hi)
    refine hK.out _ _ ⟨(zAB BK162.out 0).trans rfl,(zAB BK162.out 1).trans rfl⟩ (fun hHeld=>?_)
    clear hK K
    refine norm_ (a':=?_) ?_ ?_
    rotate_left
    ·show Act.put _ (some 42) _=_
     simp only [Act.put,List.setIfInBounds_toArray,List.set_cons_zero,List.set_cons_succ,zAO,zAR]
     rfl
    refine one_ (i:=2) (N:=some 43) #[true,true,true,false,false,false,true,false,false] rfl rfl (one_of HT_.out (by kernel_rfl)) (by decide) (fun K hK=>?_)
    refine goes_ Tryz.func21 (by kernel_rfl) rfl #[.agg #[.int .i64 x163000_1,.int .u64 x163001_1],.agg #[.int .i64 t173,.int .u64 t174]] (by rfl) rfl rfl aM_ ?_
    with_reducible refine (times_Mul.calls kj15 x163000_1 x163001_1 t173 t174 t175 t176 t177 _ A30.out).mono ?_
    rintro e w72 ⟨rfl,hb⟩
    refine ⟨_,rfl,?_⟩
    have n0_:=aK_ (RB_below (by (with_reducible repeat (first|apply RB_alloc|apply RB_drewN|apply RB_drew));exact HO_24.out) hb)
    have n1_:=aK_ (zAC (g:=gb158) (o:=.cells #[.int .i64 x159000_1,.int .u64 x159001_1] 32 (0,0)) (aB_ BK158.out) hb)
    have n2_:=aK_ (zAC (g:=gb162) (o:=.cells #[.int .i64 x163000_1,.int .u64 x163001_1] 32 (0,0)) (aB_ BK162.out) hb)
    have n3_:=aK_ (zAC (g:=gb169) (o:=.cells #[.int .i64 x170000_15,.int .u64 x170001_15] 32 (0,0)) (aB_ BK169.out) hb)
    have n4_:=aK_ (zAC (g:=gb178) (o:=.cells #[.int .i64 0,.int .u64 0] 32 (0,0)) (aB_ BK178.out) hb)
    have n5_:=aK_ (zAE (aU_ HB.out GE158.out GE162.out GE169.out GE178.out) hb)
    clear HO_24
    clear BK158
    clear BK162
    clear BK169
    clear BK178
    clear HB
    have HO_24:=n0_
    have BK158:=n1_
    have BK162:=n2_
    have BK169:=n3_
    have BK178:=n4_
    have HB:=n5_
    clear n0_ n1_ n2_ n3_ n4_ n5_
    (try clear hb)
    (try clear hb2)
    (try clear hk)
    (try clear hi)
    refine hK.out _ _ ⟨(zAB BK162.out 0).trans rfl,(zAB BK162.out 1).trans rfl⟩ (fun hHeld=>?_)
    clear hK K
    refine norm_ (a':=?_) ?_ ?_
    rotate_left
    ·show Act.put _ (some 43) _=_
     simp only [Act.put,List.setIfInBounds_toArray,List.set_cons_zero,List.set_cons_succ,zAO,zAR]
     rfl
    refine zAa (i:=3) (N:=some 40) (v:=?_) (a':=?_) #[true,true,true,true,false,false,true,false,false] rfl rfl (zAN HT_.out (by kernel_rfl)) (fun _ _ _ h=>h) (Or.inl ⟨by rfl,?_⟩) ?_ ?_
    rotate_left
    ·intro w'
     go_simp
     with_reducible rfl
    rotate_left
    ·simp only [Act.put,List.setIfInBounds_toArray,List.set_cons_zero,List.set_cons_succ,zAO,zAR]
     rfl
    refine zAa (i:=4) (N:=some 44) (v:=?_) (a':=?_) #[true,true,true,true,true,false,true,false,false] rfl rfl (zAN HT_.out (by kernel_rfl)) (fun _ _ _ h=>h) (Or.inl ⟨by rfl,?_⟩) ?_ ?_
    rotate_left
    ·intro w'
     go_simp
     with_reducible rfl
    rotate_left
    ·simp only [Act.put,List.setIfInBounds_toArray,List.set_cons_zero,List.set_cons_succ,zAO,zAR]
     rfl
    refine zAa (i:=5) (N:=some 45) (v:=?_) (a':=?_) #[true,true,true,true,true,true,true,false,false] rfl rfl (zAN HT_.out (by kernel_rfl)) (fun _ _ _ h=>h) (Or.inl ⟨by rfl,?_⟩) ?_ ?_
    rotate_left
    ·intro w'
     go_simp
     with_reducible rfl
    rotate_left
    ·simp only [Act.put,List.setIfInBounds_toArray,List.set_cons_zero,List.set_cons_succ,zAO,zAR]
     rfl
    exact norm_ (by simp only [putAll,Act.put,List.setIfInBounds_toArray,List.set_cons_zero,List.set_cons_succ]) (hCont (gb178) _ ⟨hHeld,(by (with_reducible repeat (first|apply RB_alloc|apply RB_drewN|apply RB_drew));exact HO_24.out),(aB_ BK158.out),(aB_ BK162.out),(aB_ BK169.out),(aB_ BK178.out),GW178.out,GE178.out,NB158_178.out,NB178_158.out,NB162_178.out,NB178_162.out,NB169_178.out,NB178_169.out,(aU_ HB.out GE158.out GE162.out GE169.out GE178.out)⟩)
  rintro gb178 w73 ⟨hS_,h0_,h1_,h2_,h3_,h4_,h5_,h6_,h7_,h8_,h9_,h10_,h11_,h12_,h13_⟩
  have n0_:zAG (RB w73 w.heap.size (fun _=>True) (.slice (some ad166) t163.length co11) t163):=⟨h0_⟩
  have n1_:zAG (w73.heap[gb158]?=some (.cells #[.int .i64 x159000_1,.int .u64 x159001_1] 32 (0,0))):=⟨h1_⟩
  have n2_:zAG (w73.heap[gb162]?=some (.cells #[.int .i64 x163000_1,.int .u64 x163001_1] 32 (0,0))):=⟨h2_⟩
  have n3_:zAG (w73.heap[gb169]?=some (.cells #[.int .i64 x170000_15,.int .u64 x170001_15] 32 (0,0))):=⟨h3_⟩
  have n4_:zAG (w73.heap[gb178]?=some (.cells #[.int .i64 0,.int .u64 0] 32 (0,0))):=⟨h4_⟩
  have n5_:zAG (w.heap.size≤gb178):=⟨h5_⟩
  have n6_:zAG (w.heap.size≤gb178):=⟨h6_⟩
  have n7_:zAG (gb158≠gb178):=⟨h7_⟩
  have n8_:zAG (gb178≠gb158):=⟨h8_⟩
  have n9_:zAG (gb162≠gb178):=⟨h9_⟩
  have n10_:zAG (gb178≠gb162):=⟨h10_⟩
  have n11_:zAG (gb169≠gb178):=⟨h11_⟩
  have n12_:zAG (gb178≠gb169):=⟨h12_⟩
  have n13_:zAG (Below w.heap.size w w73):=⟨h13_⟩
  clear HO_24
  clear BK158
  clear BK162
  clear BK169
  clear HB
  clear h0_ h1_ h2_ h3_ h4_ h5_ h6_ h7_ h8_ h9_ h10_ h11_ h12_ h13_
  have HO_24:=n0_
  have BK158:=n1_
  have BK162:=n2_
  have BK169:=n3_
  have BK178:=n4_
  have GW178:=n5_
  have GE178:=n6_
  have NB158_178:=n7_
  have NB178_158:=n8_
  have NB162_178:=n9_
  have NB178_162:=n10_
  have NB169_178:=n11_
  have NB178_169:=n12_
  have HB:=n13_
  clear n0_ n1_ n2_ n3_ n4_ n5_ n6_ n7_ n8_ n9_ n10_ n11_ n12_ n13_
  have hHeld:w73.cell? ⟨gb162,0,none⟩=some (.int .i64 x163000_1)∧w73.cell? ⟨gb162,1,none⟩=some (.int .u64 x163001_1):=hS_
  refine norm_ (a':=?_) ?_ ?_
  rotate_left
  ·simp only [putAll,Act.put,List.setIfInBounds_toArray,List.set_cons_zero,List.set_cons_succ]
   rfl
  refine one_ (i:=7) (N:=none) #[true,true,true,true,true,true,true,true,false] rfl rfl (one_of HT_.out (by kernel_rfl)) (by decide) (fun K hK=>?_)
  have hs74:w73.cell? ⟨gb178,0,none⟩=some (.int .i64 0):=(zAB BK178.out 0).trans rfl
  have hfs74:=zAA BK178.out 0
  have hns74_0:=NB158_178.out
  have hns74_1:=NB162_178.out
  have hns74_2:=NB169_178.out
  have hms74_0:=NB178_158.out
  have hms74_1:=NB178_162.out
  have hms74_2:=NB178_169.out
  have hs75:w73.cell? ⟨gb178,1,none⟩=some (.int .u64 0):=(zAB BK178.out 1).trans rfl
  have hfs75:=zAA BK178.out 1
  have hns75_0:=NB158_178.out
  have hns75_1:=NB162_178.out
  have hns75_2:=NB169_178.out
  have hms75_0:=NB178_158.out
  have hms75_1:=NB178_162.out
  have hms75_2:=NB178_169.out
  refine skip_ (w1:=?_) (by rfl) rfl ?_ ?_
  rotate_left
  ·go_simp
   rfl
  refine hK.out _ _ ⟨((cell_far (p:=⟨gb178,_,none⟩) NB162_178.out _).trans (((cell_far (p:=⟨gb178,_,none⟩) NB162_178.out _).trans (hHeld.1)))),((cell_far (p:=⟨gb178,_,none⟩) NB162_178.out _).trans (((cell_far (p:=⟨gb178,_,none⟩) NB162_178.out _).trans (hHeld.2))))⟩ (fun hHeld=>?_)
  clear hK K
  refine zAa (i:=8) (N:=some 12) (v:=?_) (a':=?_) #[true,true,true,true,true,true,true,true,true] rfl rfl (zAN HT_.out (by kernel_rfl)) (fun _ _ _ h=>h) (Or.inl ⟨by rfl,?_⟩) ?_ ?_
  rotate_left
  ·intro w'
   go_simp
   with_reducible rfl
  rotate_left
  ·simp only [Act.put,List.setIfInBounds_toArray,List.set_cons_zero,List.set_cons_succ,zAO,zAR]
   rfl
  refine done_ (done_of HT_.out (by kernel_rfl)) ?_
  have hnb76:=NB158_162.out
  have hnc76:=NB162_158.out
  have hnb77:=NB158_169.out
  have hnc77:=NB169_158.out
  have hnb78:=NB158_178.out
  have hnc78:=NB178_158.out
  have hcz79_0:w73.cell? ⟨gb158,0,none⟩=some (.int .i64 x159000_1):=(zAB BK158.out 0).trans rfl
  have hcz79_1:w73.cell? ⟨gb158,1,none⟩=some (.int .u64 x159001_1):=(zAB BK158.out 1).trans rfl
  have hfz79_0:=zAA BK158.out 0
  have hfz79_1:=zAA BK158.out 1
  try go_wp2
  refine bodyPost_ret (results_ct rfl _ _ gb158 32 #[.int .i64 0,.int .u64 0] (0,0) _ rfl (by refine aB_ ?_;refine zAW (cs:=#[.int .i64 0,.int .u64 x159001_1]) ?_ 1 _ rfl;refine aB_ ?_;refine zAW (cs:=#[.int .i64 x159000_1,.int .u64 x159001_1]) ?_ 0 _ rfl;refine aB_ ?_;refine zAT ?_ NB158_178.out _;refine aB_ ?_;refine zAT ?_ NB158_178.out _;refine aB_ ?_;exact BK158.out) Tryz.underlying32 rfl (by kernel_rfl)) rfl ?_
  exact ⟨by first|rfl|(simp [zAP,zAQ] <;> rfl)|(simp [*,zAP,zAQ] <;> rfl),aU_ HB.out GE158.out GE162.out GE169.out GE178.out⟩
 rw [if_pos c31] at H
 have c31b0:(t177 == 0)=true:=beq_iff_eq.mpr c31
 have c31b1:(t177 != 0)=false:=bne_eq_false_iff_eq.mpr c31
 clear c31
 replace H:=Option.bind_eq_some_iff.mp H
 obtain ⟨⟨t179,t180,t181⟩,A320,H⟩:=H
 replace H:(if t181=0 then (zAb.l0 kj15 t160 t163 (t163.length:Int) (wrap64 (x26_1+1)) t179 t180) else (some (0,0,t181)))=some (r1,r2,r3):=H
 have A32:=aK_ A320
 clear A320
 by_cases c33:t181=0
 rotate_left
 ·rw [if_neg c33] at H
  have c33b0:(t181 == 0)=false:=beq_eq_false_iff_ne.mpr c33
  have c33b1:(t181 != 0)=true:=bne_iff_ne.mpr c33
  simp only [Option.some.injEq,Prod.mk.injEq] at H
  obtain ⟨rfl,rfl,rfl⟩:=H
  try go_wp2
  have n0_:=aK_ (RB_drew HO_24.out)
  have n1_:=aK_ (blk_drew BK158.out)
  have n2_:=aK_ (blk_drew BK162.out)
  have n3_:=aK_ (blk_drew BK169.out)
  have n4_:=aK_ (below_drew1 HB.out)
  clear HO_24
  clear BK158
  clear BK162
  clear BK169
  clear HB
  have HO_24:=n0_
  have BK158:=n1_
  have BK162:=n2_
  have BK169:=n3_
  have HB:=n4_
  clear n0_ n1_ n2_ n3_ n4_
  refine start_ (n:=9) (S:=fun w'=>w'.cell? ⟨gb162,0,none⟩=some (.int .i64 x163000_1)∧w'.cell? ⟨gb162,1,none⟩=some (.int .u64 x163001_1)) (ds:=[]) #[false,false,false,false,false,false,false,false,false] (by kernel_rfl) rfl rfl ⟨(zAB BK162.out 0).trans rfl,(zAB BK162.out 1).trans rfl⟩ (fun hHeld=>?_);refine with_tabW zAb.tab11 zAb.bits11 (fun HT_ HW_=>?_)
  generalize wc.drew=w51 at HO_24 BK158 BK162 BK169 HB hHeld ⊢
  refine take_ (i:=0) (N:=some 41) (v:=?_) (a':=?_) #[true,false,false,false,false,false,false,false,false] rfl rfl (take_ofW HT_.out HW_.out (by kernel_rfl)) (fun _ _ _ h=>h) (Or.inl ⟨by rfl,?_⟩) hHeld ?_ ?_
  rotate_left
  ·rintro w' ⟨s0,s1⟩
   go_simp
   with_reducible rfl
  rotate_left
  ·simp only [Act.put,List.setIfInBounds_toArray,List.set_cons_zero,List.set_cons_succ,zAO,zAR]
   rfl
  refine join_ (σ:=Nat) 2 #[true,true,true,true,true,true,true,false,false] (fun s_=>[(42,.agg #[.int .i64 t173,.int .u64 t174]),(43,.tuple #[.agg #[.int .i64 t175,.int .u64 t176],.int .i64 t177]),(11,.pointer (some ⟨s_,0,none⟩)),(40,.tuple #[.agg #[.int .i64 t175,.int .u64 t176],.int .i64 t177]),(44,.agg #[.int .i64 t175,.int .u64 t176]),(45,.int .i64 t177)]) (fun s_ w'=>(w'.cell? ⟨gb162,0,none⟩=some (.int .i64 x163000_1)∧w'.cell? ⟨gb162,1,none⟩=some (.int .u64 x163001_1))∧(RB w' w.heap.size (fun _=>True) (.slice (some ad166) t163.length co11) t163)∧(w'.heap[gb158]?=some (.cells #[.int .i64 x159000_1,.int .u64 x159001_1] 32 (0,0)))∧(w'.heap[gb162]?=some (.cells #[.int .i64 x163000_1,.int .u64 x163001_1] 32 (0,0)))∧(w'.heap[gb169]?=some (.cells #[.int .i64 x170000_15,.int .u64 x170001_15] 32 (0,0)))∧(w'.heap[s_]?=some (.cells #[.int .i64 0,.int .u64 0] 32 (0,0)))∧(w.heap.size≤s_)∧(w.heap.size≤s_)∧(gb158≠s_)∧(s_≠gb158)∧(gb162≠s_)∧(s_≠gb162)∧(gb169≠s_)∧(s_≠gb169)∧(Below w.heap.size w w')) ?_ ?_
  rotate_left
  ·intro hCont
   refine two_ (i:=1) (j:=6) (Ni:=some 42) (Nj:=some 11) #[true,true,false,false,false,false,false,false,false] #[true,false,false,false,false,false,true,false,false] rfl rfl rfl rfl (two_of HT_.out (by kernel_rfl)) (by decide) (by decide) (fun K hK=>?_) (fun K hK=>?_)
   ·skip
    refine goes_ Tryz.func10 (by kernel_rfl) rfl #[.int .i64 10] (by rfl) rfl rfl aM_ ?_
    with_reducible refine (wide_Of.calls 10 t173 t174 _ A29.out).mono ?_
    rintro e w52 ⟨rfl,hb⟩
    refine ⟨_,rfl,?_⟩
    have n0_:=aK_ (RB_below (by (with_reducible repeat (first|apply RB_alloc|apply RB_drewN|apply RB_drew));exact HO_24.out) hb)
    have n1_:=aK_ (zAC (g:=gb158) (o:=.cells #[.int .i64 x159000_1,.int .u64 x159001_1] 32 (0,0)) (aB_ BK158.out) hb)
    have n2_:=aK_ (zAC (g:=gb162) (o:=.cells #[.int .i64 x163000_1,.int .u64 x163001_1] 32 (0,0)) (aB_ BK162.out) hb)
    have n3_:=aK_ (zAC (g:=gb169) (o:=.cells #[.int .i64 x170000_15,.int .u64 x170001_15] 32 (0,0)) (aB_ BK169.out) hb)
    have n4_:=aK_ (zAE (aQ_ HB.out GE158.out GE162.out GE169.out) hb)
    clear HO_24
    clear BK158
    clear BK162
    clear BK169
    clear HB
    have HO_24:=n0_
    have BK158:=n1_
    have BK162:=n2_
    have BK169:=n3_
    have HB:=n4_
    clear n0_ n1_ n2_ n3_ n4_
    (try clear hb)
    (try clear hb2)
    (try clear hk)
    (try clear hi)
    refine hK.out _ _ ⟨(zAB BK162.out 0).trans rfl,(zAB BK162.out 1).trans rfl⟩ (fun hHeld=>?_)
    clear hK K
    refine norm_ (a':=?_) ?_ ?_
    rotate_left
    ·show Act.put _ (some 42) _=_
     simp only [Act.put,List.setIfInBounds_toArray,List.set_cons_zero,List.set_cons_succ,zAO,zAR]
     rfl
    refine two_ (i:=2) (j:=6) (Ni:=some 43) (Nj:=some 11) #[true,true,true,false,false,false,false,false,false] #[true,true,false,false,false,false,true,false,false] rfl rfl rfl rfl (two_of HT_.out (by kernel_rfl)) (by decide) (by decide) (fun K hK=>?_) (fun K hK=>?_)
    ·skip
     refine goes_ Tryz.func21 (by kernel_rfl) rfl #[.agg #[.int .i64 x163000_1,.int .u64 x163001_1],.agg #[.int .i64 t173,.int .u64 t174]] (by rfl) rfl rfl aM_ ?_
     with_reducible refine (times_Mul.calls kj15 x163000_1 x163001_1 t173 t174 t175 t176 t177 _ A30.out).mono ?_
     rintro e w53 ⟨rfl,hb⟩
     refine ⟨_,rfl,?_⟩
     have n0_:=aK_ (RB_below (by (with_reducible repeat (first|apply RB_alloc|apply RB_drewN|apply RB_drew));exact HO_24.out) hb)
     have n1_:=aK_ (zAC (g:=gb158) (o:=.cells #[.int .i64 x159000_1,.int .u64 x159001_1] 32 (0,0)) (aB_ BK158.out) hb)
     have n2_:=aK_ (zAC (g:=gb162) (o:=.cells #[.int .i64 x163000_1,.int .u64 x163001_1] 32 (0,0)) (aB_ BK162.out) hb)
     have n3_:=aK_ (zAC (g:=gb169) (o:=.cells #[.int .i64 x170000_15,.int .u64 x170001_15] 32 (0,0)) (aB_ BK169.out) hb)
     have n4_:=aK_ (zAE (aQ_ HB.out GE158.out GE162.out GE169.out) hb)
     clear HO_24
     clear BK158
     clear BK162
     clear BK169
     clear HB
     have HO_24:=n0_
     have BK158:=n1_
     have BK162:=n2_
     have BK169:=n3_
     have HB:=n4_
     clear n0_ n1_ n2_ n3_ n4_
     (try clear hb)
     (try clear hb2)
     (try clear hk)
     (try clear hi)
     refine hK.out _ _ ⟨(zAB BK162.out 0).trans rfl,(zAB BK162.out 1).trans rfl⟩ (fun hHeld=>?_)
     clear hK K
     refine norm_ (a':=?_) ?_ ?_
     rotate_left
     ·show Act.put _ (some 43) _=_
      simp only [Act.put,List.setIfInBounds_toArray,List.set_cons_zero,List.set_cons_succ,zAO,zAR]
      rfl
     refine zAa (i:=3) (N:=some 40) (v:=?_) (a':=?_) #[true,true,true,true,false,false,false,false,false] rfl rfl (zAN HT_.out (by kernel_rfl)) (fun _ _ _ h=>h) (Or.inl ⟨by rfl,?_⟩) ?_ ?_
     rotate_left
     ·intro w'
      go_simp
      with_reducible rfl
     rotate_left
     ·simp only [Act.put,List.setIfInBounds_toArray,List.set_cons_zero,List.set_cons_succ,zAO,zAR]
      rfl
     refine zAa (i:=4) (N:=some 44) (v:=?_) (a':=?_) #[true,true,true,true,true,false,false,false,false] rfl rfl (zAN HT_.out (by kernel_rfl)) (fun _ _ _ h=>h) (Or.inl ⟨by rfl,?_⟩) ?_ ?_
     rotate_left
     ·intro w'
      go_simp
      with_reducible rfl
     rotate_left
     ·simp only [Act.put,List.setIfInBounds_toArray,List.set_cons_zero,List.set_cons_succ,zAO,zAR]
      rfl
     refine zAa (i:=5) (N:=some 45) (v:=?_) (a':=?_) #[true,true,true,true,true,true,false,false,false] rfl rfl (zAN HT_.out (by kernel_rfl)) (fun _ _ _ h=>h) (Or.inl ⟨by rfl,?_⟩) ?_ ?_
     rotate_left
     ·intro w'
      go_simp
      with_reducible rfl
     rotate_left
     ·simp only [Act.put,List.setIfInBounds_toArray,List.set_cons_zero,List.set_cons_succ,zAO,zAR]
      rfl
     refine one_ (i:=6) (N:=some 11) #[true,true,true,true,true,true,true,false,false] rfl rfl (one_of HT_.out (by kernel_rfl)) (by decide) (fun K hK=>?_)
     refine box_step ?hg (N:=11) ?hd (cs:=#[.int .i64 0,.int .u64 0]) (t:=32) ?hr ?_;(case hd=>rfl);(case hg=>rfl);(case hr=>first|(go_simp;done)|(go_simp;rfl))
     intro gb178 hg w54 hbox hb
     have n0_:=aK_ (RB_below (by (with_reducible repeat (first|apply RB_alloc|apply RB_drewN|apply RB_drew));exact HO_24.out) hb)
     have n1_:=aK_ (zAC (g:=gb158) (o:=.cells #[.int .i64 x159000_1,.int .u64 x159001_1] 32 (0,0)) (aB_ BK158.out) hb)
     have n2_:=aK_ (zAC (g:=gb162) (o:=.cells #[.int .i64 x163000_1,.int .u64 x163001_1] 32 (0,0)) (aB_ BK162.out) hb)
     have n3_:=aK_ (zAC (g:=gb169) (o:=.cells #[.int .i64 x170000_15,.int .u64 x170001_15] 32 (0,0)) (aB_ BK169.out) hb)
     have n4_:=aK_ (zAE (aQ_ HB.out GE158.out GE162.out GE169.out) hb)
     have n5_:=aK_ (hbox)
     have n6_:=aK_ ((by rw [hg];exact (zAF (aQ_ HB.out GE158.out GE162.out GE169.out)):w.heap.size≤gb178))
     have n7_:=aK_ ((by rw [hg];exact (zAF (aQ_ HB.out GE158.out GE162.out GE169.out)):w.heap.size≤gb178))
     have n8_:=aK_ ((by rw [hg];exact Nat.ne_of_lt (zAK (g:=gb158) (o:=.cells #[.int .i64 x159000_1,.int .u64 x159001_1] 32 (0,0)) (aB_ BK158.out)):gb158≠gb178))
     have n9_:=aK_ ((by rw [hg];exact Nat.ne_of_gt (zAK (g:=gb158) (o:=.cells #[.int .i64 x159000_1,.int .u64 x159001_1] 32 (0,0)) (aB_ BK158.out)):gb178≠gb158))
     have n10_:=aK_ ((by rw [hg];exact Nat.ne_of_lt (zAK (g:=gb162) (o:=.cells #[.int .i64 x163000_1,.int .u64 x163001_1] 32 (0,0)) (aB_ BK162.out)):gb162≠gb178))
     have n11_:=aK_ ((by rw [hg];exact Nat.ne_of_gt (zAK (g:=gb162) (o:=.cells #[.int .i64 x163000_1,.int .u64 x163001_1] 32 (0,0)) (aB_ BK162.out)):gb178≠gb162))
     have n12_:=aK_ ((by rw [hg];exact Nat.ne_of_lt (zAK (g:=gb169) (o:=.cells #[.int .i64 x170000_15,.int .u64 x170001_15] 32 (0,0)) (aB_ BK169.out)):gb169≠gb178))
     have n13_:=aK_ ((by rw [hg];exact Nat.ne_of_gt (zAK (g:=gb169) (o:=.cells #[.int .i64 x170000_15,.int .u64 x170001_15] 32 (0,0)) (aB_ BK169.out)):gb178≠gb169))
     clear HO_24
     clear BK158
     clear BK162
     clear BK169
     clear HB
     have HO_24:=n0_
     have BK158:=n1_
     have BK162:=n2_
     have BK169:=n3_
     have HB:=n4_
     have BK178:=n5_
     have GW178:=n6_
     have GE178:=n7_
     have NB158_178:=n8_
     have NB178_158:=n9_
     have NB162_178:=n10_
     have NB178_162:=n11_
     have NB169_178:=n12_
     have NB178_169:=n13_
     clear n0_ n1_ n2_ n3_ n4_ n5_ n6_ n7_ n8_ n9_ n10_ n11_ n12_ n13_
     clear hb hbox hg
     refine hK.out _ _ ⟨(zAB BK162.out 0).trans rfl,(zAB BK162.out 1).trans rfl⟩ (fun hHeld=>?_)
     clear hK K
     refine norm_ (a':=?_) ?_ ?_
     rotate_left
     ·show Act.put _ (some 11) _=_
      simp only [Act.put,List.setIfInBounds_toArray,List.set_cons_zero,List.set_cons_succ,zAO,zAR]
      rfl
     exact norm_ (by simp only [putAll,Act.put,List.setIfInBounds_toArray,List.set_cons_zero,List.set_cons_succ]) (hCont (gb178) _ ⟨hHeld,(by (with_reducible repeat (first|apply RB_alloc|apply RB_drewN|apply RB_drew));exact HO_24.out),(aB_ BK158.out),(aB_ BK162.out),(aB_ BK169.out),(aB_ BK178.out),GW178.out,GE178.out,NB158_178.out,NB178_158.out,NB162_178.out,NB178_162.out,NB169_178.out,NB178_169.out,(aU_ HB.out GE158.out GE162.out GE169.out GE178.out)⟩)
    ·skip
     refine box_step ?hg (N:=11) ?hd (cs:=#[.int .i64 0,.int .u64 0]) (t:=32) ?hr ?_;(case hd=>rfl);(case hg=>rfl);(case hr=>first|(go_simp;done)|(go_simp;rfl))
     intro gb178 hg w53 hbox hb
     have n0_:=aK_ (RB_below (by (with_reducible repeat (first|apply RB_alloc|apply RB_drewN|apply RB_drew));exact HO_24.out) hb)
     have n1_:=aK_ (zAC (g:=gb158) (o:=.cells #[.int .i64 x159000_1,.int .u64 x159001_1] 32 (0,0)) (aB_ BK158.out) hb)
     have n2_:=aK_ (zAC (g:=gb162) (o:=.cells #[.int .i64 x163000_1,.int .u64 x163001_1] 32 (0,0)) (aB_ BK162.out) hb)
     have n3_:=aK_ (zAC (g:=gb169) (o:=.cells #[.int .i64 x170000_15,.int .u64 x170001_15] 32 (0,0)) (aB_ BK169.out) hb)
     have n4_:=aK_ (zAE (aQ_ HB.out GE158.out GE162.out GE169.out) hb)
     have n5_:=aK_ (hbox)
     have n6_:=aK_ ((by rw [hg];exact (zAF (aQ_ HB.out GE158.out GE162.out GE169.out)):w.heap.size≤gb178))
     have n7_:=aK_ ((by rw [hg];exact (zAF (aQ_ HB.out GE158.out GE162.out GE169.out)):w.heap.size≤gb178))
     have n8_:=aK_ ((by rw [hg];exact Nat.ne_of_lt (zAK (g:=gb158) (o:=.cells #[.int .i64 x159000_1,.int .u64 x159001_1] 32 (0,0)) (aB_ BK158.out)):gb158≠gb178))
     have n9_:=aK_ ((by rw [hg];exact Nat.ne_of_gt (zAK (g:=gb158) (o:=.cells #[.int .i64 x159000_1,.int .u64 x159001_1] 32 (0,0)) (aB_ BK158.out)):gb178≠gb158))
     have n10_:=aK_ ((by rw [hg];exact Nat.ne_of_lt (zAK (g:=gb162) (o:=.cells #[.int .i64 x163000_1,.int .u64 x163001_1] 32 (0,0)) (aB_ BK162.out)):gb162≠gb178))
     have n11_:=aK_ ((by rw [hg];exact Nat.ne_of_gt (zAK (g:=gb162) (o:=.cells #[.int .i64 x163000_1,.int .u64 x163001_1] 32 (0,0)) (aB_ BK162.out)):gb178≠gb162))
     have n12_:=aK_ ((by rw [hg];exact Nat.ne_of_lt (zAK (g:=gb169) (o:=.cells #[.int .i64 x170000_15,.int .u64 x170001_15] 32 (0,0)) (aB_ BK169.out)):gb169≠gb178))
     have n13_:=aK_ ((by rw [hg];exact Nat.ne_of_gt (zAK (g:=gb169) (o:=.cells #[.int .i64 x170000_15,.int .u64 x170001_15] 32 (0,0)) (aB_ BK169.out)):gb178≠gb169))
     clear HO_24
     clear BK158
     clear BK162
     clear BK169
     clear HB
     have HO_24:=n0_
     have BK158:=n1_
     have BK162:=n2_
     have BK169:=n3_
     have HB:=n4_
     have BK178:=n5_
     have GW178:=n6_
     have GE178:=n7_
     have NB158_178:=n8_
     have NB178_158:=n9_
     have NB162_178:=n10_
     have NB178_162:=n11_
     have NB169_178:=n12_
     have NB178_169:=n13_
     clear n0_ n1_ n2_ n3_ n4_ n5_ n6_ n7_ n8_ n9_ n10_ n11_ n12_ n13_
     clear hb hbox hg
     refine hK.out _ _ ⟨(zAB BK162.out 0).trans rfl,(zAB BK162.out 1).trans rfl⟩ (fun hHeld=>?_)
     clear hK K
     refine norm_ (a':=?_) ?_ ?_
     rotate_left
     ·show Act.put _ (some 11) _=_
      simp only [Act.put,List.setIfInBounds_toArray,List.set_cons_zero,List.set_cons_succ,zAO,zAR]
      rfl
     refine one_ (i:=2) (N:=some 43) #[true,true,true,false,false,false,true,false,false] rfl rfl (one_of HT_.out (by kernel_rfl)) (by decide) (fun K hK=>?_)
     refine goes_ Tryz.func21 (by kernel_rfl) rfl #[.agg #[.int .i64 x163000_1,.int .u64 x163001_1],.agg #[.int .i64 t173,.int .u64 t174]] (by rfl) rfl rfl aM_ ?_
     with_reducible refine (times_Mul.calls kj15 x163000_1 x163001_1 t173 t174 t175 t176 t177 _ A30.out).mono ?_
     rintro e w54 ⟨rfl,hb⟩
     refine ⟨_,rfl,?_⟩
     have n0_:=aK_ (RB_below (by (with_reducible repeat (first|apply RB_alloc|apply RB_drewN|apply RB_drew));exact HO_24.out) hb)
     have n1_:=aK_ (zAC (g:=gb158) (o:=.cells #[.int .i64 x159000_1,.int .u64 x159001_1] 32 (0,0)) (aB_ BK158.out) hb)
     have n2_:=aK_ (zAC (g:=gb162) (o:=.cells #[.int .i64 x163000_1,.int .u64 x163001_1] 32 (0,0)) (aB_ BK162.out) hb)
     have n3_:=aK_ (zAC (g:=gb169) (o:=.cells #[.int .i64 x170000_15,.int .u64 x170001_15] 32 (0,0)) (aB_ BK169.out) hb)
     have n4_:=aK_ (zAC (g:=gb178) (o:=.cells #[.int .i64 0,.int .u64 0] 32 (0,0)) (aB_ BK178.out) hb)
     have n5_:=aK_ (zAE (aU_ HB.out GE158.out GE162.out GE169.out GE178.out) hb)
     clear HO_24
     clear BK158
     clear BK162
     clear BK169
     clear BK178
     clear HB
     have HO_24:=n0_
     have BK158:=n1_
     have BK162:=n2_
     have BK169:=n3_
     have BK178:=n4_
     have HB:=n5_
     clear n0_ n1_ n2_ n3_ n4_ n5_
     (try clear hb)
     (try clear hb2)
     (try clear hk)
     (try clear hi)
     refine hK.out _ _ ⟨(zAB BK162.out 0).trans rfl,(zAB BK162.out 1).trans rfl⟩ (fun hHeld=>?_)
     clear hK K
     refine norm_ (a':=?_) ?_ ?_
     rotate_left
     ·show Act.put _ (some 43) _=_
      simp only [Act.put,List.setIfInBounds_toArray,List.set_cons_zero,List.set_cons_succ,zAO,zAR]
      rfl
     refine zAa (i:=3) (N:=some 40) (v:=?_) (a':=?_) #[true,true,true,true,false,false,true,false,false] rfl rfl (zAN HT_.out (by kernel_rfl)) (fun _ _ _ h=>h) (Or.inl ⟨by rfl,?_⟩) ?_ ?_
     rotate_left
     ·intro w'
      go_simp
      with_reducible rfl
     rotate_left
     ·simp only [Act.put,List.setIfInBounds_toArray,List.set_cons_zero,List.set_cons_succ,zAO,zAR]
      rfl
     refine zAa (i:=4) (N:=some 44) (v:=?_) (a':=?_) #[true,true,true,true,true,false,true,false,false] rfl rfl (zAN HT_.out (by kernel_rfl)) (fun _ _ _ h=>h) (Or.inl ⟨by rfl,?_⟩) ?_ ?_
     rotate_left
     ·intro w'
      go_simp
      with_reducible rfl
     rotate_left
     ·simp only [Act.put,List.setIfInBounds_toArray,List.set_cons_zero,List.set_cons_succ,zAO,zAR]
      rfl
     refine zAa (i:=5) (N:=some 45) (v:=?_) (a':=?_) #[true,true,true,true,true,true,true,false,false] rfl rfl (zAN HT_.out (by kernel_rfl)) (fun _ _ _ h=>h) (Or.inl ⟨by rfl,?_⟩) ?_ ?_
     rotate_left
     ·intro w'
      go_simp
      with_reducible rfl
     rotate_left
     ·simp only [Act.put,List.setIfInBounds_toArray,List.set_cons_zero,List.set_cons_succ,zAO,zAR]
      rfl
     exact norm_ (by simp only [putAll,Act.put,List.setIfInBounds_toArray,List.set_cons_zero,List.set_cons_succ]) (hCont (gb178) _ ⟨hHeld,(by (with_reducible repeat (first|apply RB_alloc|apply RB_drewN|apply RB_drew));exact HO_24.out),(aB_ BK158.out),(aB_ BK162.out),(aB_ BK169.out),(aB_ BK178.out),GW178.out,GE178.out,NB158_178.out,NB178_158.out,NB162_178.out,NB178_162.out,NB169_178.out,NB178_169.out,(aU_ HB.out GE158.out GE162.out GE169.out GE178.out)⟩)
   ·skip
    refine box_step ?hg (N:=11) ?hd (cs:=#[.int .i64 0,.int .u64 0]) (t:=32) ?hr ?_;(case hd=>rfl);(case hg=>rfl);(case hr=>first|(go_simp;done)|(go_simp;rfl))
    intro gb178 hg w52 hbox hb
    have n0_:=aK_ (RB_below (by (with_reducible repeat (first|apply RB_alloc|apply RB_drewN|apply RB_drew));exact HO_24.out) hb)
    have n1_:=aK_ (zAC (g:=gb158) (o:=.cells #[.int .i64 x159000_1,.int .u64 x159001_1] 32 (0,0)) (aB_ BK158.out) hb)
    have n2_:=aK_ (zAC (g:=gb162) (o:=.cells #[.int .i64 x163000_1,.int .u64 x163001_1] 32 (0,0)) (aB_ BK162.out) hb)
    have n3_:=aK_ (zAC (g:=gb169) (o:=.cells #[.int .i64 x170000_15,.int .u64 x170001_15] 32 (0,0)) (aB_ BK169.out) hb)
    have n4_:=aK_ (zAE (aQ_ HB.out GE158.out GE162.out GE169.out) hb)
    have n5_:=aK_ (hbox)
    have n6_:=aK_ ((by rw [hg];exact (zAF (aQ_ HB.out GE158.out GE162.out GE169.out)):w.heap.size≤gb178))
    have n7_:=aK_ ((by rw [hg];exact (zAF (aQ_ HB.out GE158.out GE162.out GE169.out)):w.heap.size≤gb178))
    have n8_:=aK_ ((by rw [hg];exact Nat.ne_of_lt (zAK (g:=gb158) (o:=.cells #[.int .i64 x159000_1,.int .u64 x159001_1] 32 (0,0)) (aB_ BK158.out)):gb158≠gb178))
    have n9_:=aK_ ((by rw [hg];exact Nat.ne_of_gt (zAK (g:=gb158) (o:=.cells #[.int .i64 x159000_1,.int .u64 x159001_1] 32 (0,0)) (aB_ BK158.out)):gb178≠gb158))
    have n10_:=aK_ ((by rw [hg];exact Nat.ne_of_lt (zAK (g:=gb162) (o:=.cells #[.int .i64 x163000_1,.int .u64 x163001_1] 32 (0,0)) (aB_ BK162.out)):gb162≠gb178))
    have n11_:=aK_ ((by rw [hg];exact Nat.ne_of_gt (zAK (g:=gb162) (o:=.cells #[.int .i64 x163000_1,.int .u64 x163001_1] 32 (0,0)) (aB_ BK162.out)):gb178≠gb162))
    have n12_:=aK_ ((by rw [hg];exact Nat.ne_of_lt (zAK (g:=gb169) (o:=.cells #[.int .i64 x170000_15,.int .u64 x170001_15] 32 (0,0)) (aB_ BK169.out)):gb169≠gb178))
    have n13_:=aK_ ((by rw [hg];exact Nat.ne_of_gt (zAK (g:=gb169) (o:=.cells #[.int .i64 x170000_15,.int .u64 x170001_15] 32 (0,0)) (aB_ BK169.out)):gb178≠gb169))
    clear HO_24
    clear BK158
    clear BK162
    clear BK169
    clear HB
    have HO_24:=n0_
    have BK158:=n1_
    have BK162:=n2_
    have BK169:=n3_
    have HB:=n4_
    have BK178:=n5_
    have GW178:=n6_
    have GE178:=n7_
    have NB158_178:=n8_
    have NB178_158:=n9_
    have NB162_178:=n10_
    have NB178_162:=n11_
    have NB169_178:=n12_
    have NB178_169:=n13_
    clear n0_ n1_ n2_ n3_ n4_ n5_ n6_ n7_ n8_ n9_ n10_ n11_ n12_ n13_
    clear hb hbox hg
    refine hK.out _ _ ⟨(zAB BK162.out 0).trans rfl,(zAB BK162.out 1).trans rfl⟩ (fun hHeld=>?_)
    clear hK K
    refine norm_ (a':=?_) ?_ ?_
    rotate_left
    ·show Act.put _ (some 11) _=_
     simp only [Act.put,List.setIfInBounds_toArray,List.set_cons_zero,List.set_cons_succ,zAO,zAR]
     rfl
    refine one_ (i:=1) (N:=some 42) #[true,true,false,false,false,false,true,false,false] rfl rfl (one_of HT_.out (by kernel_rfl)) (by decide) (fun K hK=>?_)
    refine goes_ Tryz.func10 (by kernel_rfl) rfl #[.int .i64 10] (by rfl) rfl rfl aM_ ?_
    with_reducible refine (wide_Of.calls 10 t173 t174 _ A29.out).mono ?_
    rintro e w53 ⟨rfl,hb⟩
    refine ⟨_,rfl,?_⟩
    have n0_:=aK_ (RB_below (by (with_reducible repeat (first|apply RB_alloc|apply RB_drewN|apply RB_drew));exact HO_24.out) hb)
    have n1_:=aK_ (zAC (g:=gb158) (o:=.cells #[.int .i64 x159000_1,.int .u64 x159001_1] 32 (0,0)) (aB_ BK158.out) hb)
    have n2_:=aK_ (zAC (g:=gb162) (o:=.cells #[.int .i64 x163000_1,.int .u64 x163001_1] 32 (0,0)) (aB_ BK162.out) hb)
    have n3_:=aK_ (zAC (g:=gb169) (o:=.cells #[.int .i64 x170000_15,.int .u64 x170001_15] 32 (0,0)) (aB_ BK169.out) hb)
    have n4_:=aK_ (zAC (g:=gb178) (o:=.cells #[.int .i64 0,.int .u64 0] 32 (0,0)) (aB_ BK178.out) hb)
    have n5_:=aK_ (zAE (aU_ HB.out GE158.out GE162.out GE169.out GE178.out) hb)
    clear HO_24
    clear BK158
    clear BK162
    clear BK169
    clear BK178
    clear HB
    have HO_24:=n0_
    have BK158:=n1_
    have BK162:=n2_
    have BK169:=n3_
    have BK178:=n4_
    have HB:=n5_
    clear n0_ n1_ n2_ n3_ n4_ n5_
    (try clear hb)
    (try clear hb2)
    (try clear hk)
    (try clear hi)
    refine hK.out _ _ ⟨(zAB BK162.out 0).trans rfl,(zAB BK162.out 1).trans rfl⟩ (fun hHeld=>?_)
    clear hK K
    refine norm_ (a':=?_) ?_ ?_
    rotate_left
    ·show Act.put _ (some 42) _=_
     simp only [Act.put,List.setIfInBounds_toArray,List.set_cons_zero,List.set_cons_succ,zAO,zAR]
     rfl
    refine one_ (i:=2) (N:=some 43) #[true,true,true,false,false,false,true,false,false] rfl rfl (one_of HT_.out (by kernel_rfl)) (by decide) (fun K hK=>?_)
    refine goes_ Tryz.func21 (by kernel_rfl) rfl #[.agg #[.int .i64 x163000_1,.int .u64 x163001_1],.agg #[.int .i64 t173,.int .u64 t174]] (by rfl) rfl rfl aM_ ?_
    with_reducible refine (times_Mul.calls kj15 x163000_1 x163001_1 t173 t174 t175 t176 t177 _ A30.out).mono ?_
    rintro e w54 ⟨rfl,hb⟩
    refine ⟨_,rfl,?_⟩
    have n0_:=aK_ (RB_below (by (with_reducible repeat (first|apply RB_alloc|apply RB_drewN|apply RB_drew));exact HO_24.out) hb)
    have n1_:=aK_ (zAC (g:=gb158) (o:=.cells #[.int .i64 x159000_1,.int .u64 x159001_1] 32 (0,0)) (aB_ BK158.out) hb)
    have n2_:=aK_ (zAC (g:=gb162) (o:=.cells #[.int .i64 x163000_1,.int .u64 x163001_1] 32 (0,0)) (aB_ BK162.out) hb)
    have n3_:=aK_ (zAC (g:=gb169) (o:=.cells #[.int .i64 x170000_15,.int .u64 x170001_15] 32 (0,0)) (aB_ BK169.out) hb)
    have n4_:=aK_ (zAC (g:=gb178) (o:=.cells #[.int .i64 0,.int .u64 0] 32 (0,0)) (aB_ BK178.out) hb)
    have n5_:=aK_ (zAE (aU_ HB.out GE158.out GE162.out GE169.out GE178.out) hb)
    clear HO_24
    clear BK158
    clear BK162
    clear BK169
    clear BK178
    clear HB
    have HO_24:=n0_
    have BK158:=n1_
    have BK162:=n2_
    have BK169:=n3_
    have BK178:=n4_
    have HB:=n5_
    clear n0_ n1_ n2_ n3_ n4_ n5_
    (try clear hb)
    (try clear hb2)
    (try clear hk)
    (try clear hi)
    refine hK.out _ _ ⟨(zAB BK162.out 0).trans rfl,(zAB BK162.out 1).trans rfl⟩ (fun hHeld=>?_)
    clear hK K
    refine norm_ (a':=?_) ?_ ?_
    rotate_left
    ·show Act.put _ (some 43) _=_
     simp only [Act.put,List.setIfInBounds_toArray,List.set_cons_zero,List.set_cons_succ,zAO,zAR]
     rfl
    refine zAa (i:=3) (N:=some 40) (v:=?_) (a':=?_) #[true,true,true,true,false,false,true,false,false] rfl rfl (zAN HT_.out (by kernel_rfl)) (fun _ _ _ h=>h) (Or.inl ⟨by rfl,?_⟩) ?_ ?_
    rotate_left
    ·intro w'
     go_simp
     with_reducible rfl
    rotate_left
    ·simp only [Act.put,List.setIfInBounds_toArray,List.set_cons_zero,List.set_cons_succ,zAO,zAR]
     rfl
    refine zAa (i:=4) (N:=some 44) (v:=?_) (a':=?_) #[true,true,true,true,true,false,true,false,false] rfl rfl (zAN HT_.out (by kernel_rfl)) (fun _ _ _ h=>h) (Or.inl ⟨by rfl,?_⟩) ?_ ?_
    rotate_left
    ·intro w'
     go_simp
     with_reducible rfl
    rotate_left
    ·simp only [Act.put,List.setIfInBounds_toArray,List.set_cons_zero,List.set_cons_succ,zAO,zAR]
     rfl
    refine zAa (i:=5) (N:=some 45) (v:=?_) (a':=?_) #[true,true,true,true,true,true,true,false,false] rfl rfl (zAN HT_.out (by kernel_rfl)) (fun _ _ _ h=>h) (Or.inl ⟨by rfl,?_⟩) ?_ ?_
    rotate_left
    ·intro w'
     go_simp
     with_reducible rfl
    rotate_left
    ·simp only [Act.put,List.setIfInBounds_toArray,List.set_cons_zero,List.set_cons_succ,zAO,zAR]
     rfl
    exact norm_ (by simp only [putAll,Act.put,List.setIfInBounds_toArray,List.set_cons_zero,List.set_cons_succ]) (hCont (gb178) _ ⟨hHeld,(by (with_reducible repeat (first|apply RB_alloc|apply RB_drewN|apply RB_drew));exact HO_24.out),(aB_ BK158.out),(aB_ BK162.out),(aB_ BK169.out),(aB_ BK178.out),GW178.out,GE178.out,NB158_178.out,NB178_158.out,NB162_178.out,NB178_162.out,NB169_178.out,NB178_169.out,(aU_ HB.out GE158.out GE162.out GE169.out GE178.out)⟩)
  rintro gb178 w55 ⟨hS_,h0_,h1_,h2_,h3_,h4_,h5_,h6_,h7_,h8_,h9_,h10_,h11_,h12_,h13_⟩
  have n0_:zAG (RB w55 w.heap.size (fun _=>True) (.slice (some ad166) t163.length co11) t163):=⟨h0_⟩
  have n1_:zAG (w55.heap[gb158]?=some (.cells #[.int .i64 x159000_1,.int .u64 x159001_1] 32 (0,0))):=⟨h1_⟩
  have n2_:zAG (w55.heap[gb162]?=some (.cells #[.int .i64 x163000_1,.int .u64 x163001_1] 32 (0,0))):=⟨h2_⟩
  have n3_:zAG (w55.heap[gb169]?=some (.cells #[.int .i64 x170000_15,.int .u64 x170001_15] 32 (0,0))):=⟨h3_⟩
  have n4_:zAG (w55.heap[gb178]?=some (.cells #[.int .i64 0,.int .u64 0] 32 (0,0))):=⟨h4_⟩
  have n5_:zAG (w.heap.size≤gb178):=⟨h5_⟩
  have n6_:zAG (w.heap.size≤gb178):=⟨h6_⟩
  have n7_:zAG (gb158≠gb178):=⟨h7_⟩
  have n8_:zAG (gb178≠gb158):=⟨h8_⟩
  have n9_:zAG (gb162≠gb178):=⟨h9_⟩
  have n10_:zAG (gb178≠gb162):=⟨h10_⟩
  have n11_:zAG (gb169≠gb178):=⟨h11_⟩
  have n12_:zAG (gb178≠gb169):=⟨h12_⟩
  have n13_:zAG (Below w.heap.size w w55):=⟨h13_⟩
  clear HO_24
  clear BK158
  clear BK162
  clear BK169
  clear HB
  clear h0_ h1_ h2_ h3_ h4_ h5_ h6_ h7_ h8_ h9_ h10_ h11_ h12_ h13_
  have HO_24:=n0_
  have BK158:=n1_
  have BK162:=n2_
  have BK169:=n3_
  have BK178:=n4_
  have GW178:=n5_
  have GE178:=n6_
  have NB158_178:=n7_
  have NB178_158:=n8_
  have NB162_178:=n9_
  have NB178_162:=n10_
  have NB169_178:=n11_
  have NB178_169:=n12_
  have HB:=n13_
  clear n0_ n1_ n2_ n3_ n4_ n5_ n6_ n7_ n8_ n9_ n10_ n11_ n12_ n13_
  have hHeld:w55.cell? ⟨gb162,0,none⟩=some (.int .i64 x163000_1)∧w55.cell? ⟨gb162,1,none⟩=some (.int .u64 x163001_1):=hS_
  refine norm_ (a':=?_) ?_ ?_
  rotate_left
  ·simp only [putAll,Act.put,List.setIfInBounds_toArray,List.set_cons_zero,List.set_cons_succ]
   rfl
  refine one_ (i:=7) (N:=none) #[true,true,true,true,true,true,true,true,false] rfl rfl (one_of HT_.out (by kernel_rfl)) (by decide) (fun K hK=>?_)
  have hs56:w55.cell? ⟨gb178,0,none⟩=some (.int .i64 0):=(zAB BK178.out 0).trans rfl
  have hfs56:=zAA BK178.out 0
  have hns56_0:=NB158_178.out
  have hns56_1:=NB162_178.out
  have hns56_2:=NB169_178.out
  have hms56_0:=NB178_158.out
  have hms56_1:=NB178_162.out
  have hms56_2:=NB178_169.out
  have hs57:w55.cell? ⟨gb178,1,none⟩=some (.int .u64 0):=(zAB BK178.out 1).trans rfl
  have hfs57:=zAA BK178.out 1
  have hns57_0:=NB158_178.out
  have hns57_1:=NB162_178.out
  have hns57_2:=NB169_178.out
  have hms57_0:=NB178_158.out
  have hms57_1:=NB178_162.out
  have hms57_2:=NB178_169.out
  refine skip_ (w1:=?_) (by rfl) rfl ?_ ?_
  rotate_left
  ·go_simp
   rfl
  refine hK.out _ _ ⟨((cell_far (p:=⟨gb178,_,none⟩) NB162_178.out _).trans (((cell_far (p:=⟨gb178,_,none⟩) NB162_178.out _).trans (hHeld.1)))),((cell_far (p:=⟨gb178,_,none⟩) NB162_178.out _).trans (((cell_far (p:=⟨gb178,_,none⟩) NB162_178.out _).trans (hHeld.2))))⟩ (fun hHeld=>?_)
  clear hK K
  refine zAa (i:=8) (N:=some 12) (v:=?_) (a':=?_) #[true,true,true,true,true,true,true,true,true] rfl rfl (zAN HT_.out (by kernel_rfl)) (fun _ _ _ h=>h) (Or.inl ⟨by rfl,?_⟩) ?_ ?_
  rotate_left
  ·intro w'
   go_simp
   with_reducible rfl
  rotate_left
  ·simp only [Act.put,List.setIfInBounds_toArray,List.set_cons_zero,List.set_cons_succ,zAO,zAR]
   rfl
  refine done_ (done_of HT_.out (by kernel_rfl)) ?_
  have hnb58:=NB178_158.out
  have hnc58:=NB158_178.out
  have hnb59:=NB178_162.out
  have hnc59:=NB162_178.out
  have hnb60:=NB178_169.out
  have hnc60:=NB169_178.out
  have hcz61_0:w55.cell? ⟨gb178,0,none⟩=some (.int .i64 0):=(zAB BK178.out 0).trans rfl
  have hcz61_1:w55.cell? ⟨gb178,1,none⟩=some (.int .u64 0):=(zAB BK178.out 1).trans rfl
  have hfz61_0:=zAA BK178.out 0
  have hfz61_1:=zAA BK178.out 1
  have hnb62:=NB169_158.out
  have hnc62:=NB158_169.out
  have hnb63:=NB169_162.out
  have hnc63:=NB162_169.out
  have hcz64_0:w55.cell? ⟨gb169,0,none⟩=some (.int .i64 x170000_15):=(zAB BK169.out 0).trans rfl
  have hcz64_1:w55.cell? ⟨gb169,1,none⟩=some (.int .u64 x170001_15):=(zAB BK169.out 1).trans rfl
  have hfz64_0:=zAA BK169.out 0
  have hfz64_1:=zAA BK169.out 1
  try go_wp2_with (first|((with_reducible refine zAM (f:=22) rfl ?_);refine goesL_ (some 53) rfl rfl Tryz.func22 (by kernel_rfl) rfl #[.agg #[.int .i64 t175,.int .u64 t176],.agg #[.int .i64 x170000_15,.int .u64 x170001_15]] rfl aM_ ?_;(with_reducible refine (wide_Add.calls t175 t176 x170000_15 x170001_15 t179 t180 t181 _ A32.out).mono ?_);rintro e w65 ⟨rfl,hb⟩;refine ⟨_,rfl,?_⟩;have n0_:=aK_ (RB_below (by (with_reducible repeat (first|apply RB_alloc|apply RB_drewN|apply RB_drew));exact (RB_mono (RB_far (p:=⟨gb178,1,none⟩) (RB_far (p:=⟨gb178,0,none⟩) (RB_types HO_24.out BK178.out (by decide)) (fun _ hk=>hk.2) (.int .i64 t175)) (fun _ hk=>hk.2) (.int .u64 t176)) (fun _ h_=>h_.1))) hb);have n1_:=aK_ (zAC (g:=gb158) (o:=.cells #[.int .i64 x159000_1,.int .u64 x159001_1] 32 (0,0)) (by refine aB_ ?_;refine zAT ?_ NB158_178.out _;refine aB_ ?_;refine zAT ?_ NB158_178.out _;refine aB_ ?_;exact BK158.out) hb);have n2_:=aK_ (zAC (g:=gb162) (o:=.cells #[.int .i64 x163000_1,.int .u64 x163001_1] 32 (0,0)) (by refine aB_ ?_;refine zAT ?_ NB162_178.out _;refine aB_ ?_;refine zAT ?_ NB162_178.out _;refine aB_ ?_;exact BK162.out) hb);have n3_:=aK_ (zAC (g:=gb169) (o:=.cells #[.int .i64 x170000_15,.int .u64 x170001_15] 32 (0,0)) (by refine aB_ ?_;refine zAT ?_ NB169_178.out _;refine aB_ ?_;refine zAT ?_ NB169_178.out _;refine aB_ ?_;exact BK169.out) hb);have n4_:=aK_ (zAC (g:=gb178) (o:=.cells #[.int .i64 t175,.int .u64 t176] 32 (0,0)) (by refine aB_ ?_;refine zAW (cs:=#[.int .i64 t175,.int .u64 0]) ?_ 1 _ rfl;refine aB_ ?_;refine zAW (cs:=#[.int .i64 0,.int .u64 0]) ?_ 0 _ rfl;refine aB_ ?_;exact BK178.out) hb);have n5_:=aK_ (zAE (aU_ HB.out GE158.out GE162.out GE169.out GE178.out) hb);clear HO_24;clear BK158;clear BK162;clear BK169;clear BK178;clear HB;have HO_24:=n0_;have BK158:=n1_;have BK162:=n2_;have BK169:=n3_;have BK178:=n4_;have HB:=n5_;clear n0_ n1_ n2_ n3_ n4_ n5_;(try clear hb);(try clear hb2);(try clear hk);(try clear hi);have hnb66:=NB162_158.out;have hnc66:=NB158_162.out;have hcz67_0:w65.cell? ⟨gb162,0,none⟩=some (.int .i64 x163000_1):=(zAB BK162.out 0).trans rfl;have hcz67_1:w65.cell? ⟨gb162,1,none⟩=some (.int .u64 x163001_1):=(zAB BK162.out 1).trans rfl;have hfz67_0:=zAA BK162.out 0;have hfz67_1:=zAA BK162.out 1;have hcz68_0:w65.cell? ⟨gb158,0,none⟩=some (.int .i64 x159000_1):=(zAB BK158.out 0).trans rfl;have hcz68_1:w65.cell? ⟨gb158,1,none⟩=some (.int .u64 x159001_1):=(zAB BK158.out 1).trans rfl;have hfz68_0:=zAA BK158.out 0;have hfz68_1:=zAA BK158.out 1))
  refine bodyPost_ret (results_ct rfl _ _ gb158 32 #[.int .i64 0,.int .u64 0] (0,0) _ rfl (by refine aB_ ?_;refine zAW (cs:=#[.int .i64 0,.int .u64 x159001_1]) ?_ 1 _ rfl;refine aB_ ?_;refine zAW (cs:=#[.int .i64 x159000_1,.int .u64 x159001_1]) ?_ 0 _ rfl;refine aB_ ?_;refine zAT ?_ NB158_162.out _;refine aB_ ?_;refine zAT ?_ NB158_162.out _;refine aB_ ?_;exact BK158.out) Tryz.underlying32 rfl (by kernel_rfl)) rfl ?_
  exact ⟨by first|rfl|(simp [zAP,zAQ] <;> rfl)|(simp [*,zAP,zAQ] <;> rfl),aU_ HB.out GE158.out GE162.out GE169.out GE178.out⟩
 rw [if_pos c33] at H
 have c33b0:(t181 == 0)=true:=beq_iff_eq.mpr c33
 have c33b1:(t181 != 0)=false:=bne_eq_false_iff_eq.mpr c33
 clear c33
 have H':=aK_ H
 clear H
 try go_wp2
 have n0_:=aK_ (RB_drew HO_24.out)
 have n1_:=aK_ (blk_drew BK158.out)
 have n2_:=aK_ (blk_drew BK162.out)
 have n3_:=aK_ (blk_drew BK169.out)
 have n4_:=aK_ (below_drew1 HB.out)
 clear HO_24
 clear BK158
 clear BK162
 clear BK169
 clear HB
 have HO_24:=n0_
 have BK158:=n1_
 have BK162:=n2_
 have BK169:=n3_
 have HB:=n4_
 clear n0_ n1_ n2_ n3_ n4_
 refine start_ (n:=9) (S:=fun w'=>w'.cell? ⟨gb162,0,none⟩=some (.int .i64 x163000_1)∧w'.cell? ⟨gb162,1,none⟩=some (.int .u64 x163001_1)) (ds:=[]) #[false,false,false,false,false,false,false,false,false] (by kernel_rfl) rfl rfl ⟨(zAB BK162.out 0).trans rfl,(zAB BK162.out 1).trans rfl⟩ (fun hHeld=>?_);refine with_tabW zAb.tab11 zAb.bits11 (fun HT_ HW_=>?_)
 generalize wc.drew=w34 at HO_24 BK158 BK162 BK169 HB hHeld ⊢
 refine take_ (i:=0) (N:=some 41) (v:=?_) (a':=?_) #[true,false,false,false,false,false,false,false,false] rfl rfl (take_ofW HT_.out HW_.out (by kernel_rfl)) (fun _ _ _ h=>h) (Or.inl ⟨by rfl,?_⟩) hHeld ?_ ?_
 rotate_left
 ·rintro w' ⟨s0,s1⟩
  go_simp
  with_reducible rfl
 rotate_left
 ·simp only [Act.put,List.setIfInBounds_toArray,List.set_cons_zero,List.set_cons_succ,zAO,zAR]
  rfl
 refine join_ (σ:=Nat) 2 #[true,true,true,true,true,true,true,false,false] (fun s_=>[(42,.agg #[.int .i64 t173,.int .u64 t174]),(43,.tuple #[.agg #[.int .i64 t175,.int .u64 t176],.int .i64 t177]),(11,.pointer (some ⟨s_,0,none⟩)),(40,.tuple #[.agg #[.int .i64 t175,.int .u64 t176],.int .i64 t177]),(44,.agg #[.int .i64 t175,.int .u64 t176]),(45,.int .i64 t177)]) (fun s_ w'=>(w'.cell? ⟨gb162,0,none⟩=some (.int .i64 x163000_1)∧w'.cell? ⟨gb162,1,none⟩=some (.int .u64 x163001_1))∧(RB w' w.heap.size (fun _=>True) (.slice (some ad166) t163.length co11) t163)∧(w'.heap[gb158]?=some (.cells #[.int .i64 x159000_1,.int .u64 x159001_1] 32 (0,0)))∧(w'.heap[gb162]?=some (.cells #[.int .i64 x163000_1,.int .u64 x163001_1] 32 (0,0)))∧(w'.heap[gb169]?=some (.cells #[.int .i64 x170000_15,.int .u64 x170001_15] 32 (0,0)))∧(w'.heap[s_]?=some (.cells #[.int .i64 0,.int .u64 0] 32 (0,0)))∧(w.heap.size≤s_)∧(w.heap.size≤s_)∧(gb158≠s_)∧(s_≠gb158)∧(gb162≠s_)∧(s_≠gb162)∧(gb169≠s_)∧(s_≠gb169)∧(Below w.heap.size w w')) ?_ ?_
 rotate_left
 ·intro hCont
  refine two_ (i:=1) (j:=6) (Ni:=some 42) (Nj:=some 11) #[true,true,false,false,false,false,false,false,false] #[true,false,false,false,false,false,true,false,false] rfl rfl rfl rfl (two_of HT_.out (by kernel_rfl)) (by decide) (by decide) (fun K hK=>?_) (fun K hK=>?_)
  ·skip
   refine goes_ Tryz.func10 (by kernel_rfl) rfl #[.int .i64 10] (by rfl) rfl rfl aM_ ?_
   with_reducible refine (wide_Of.calls 10 t173 t174 _ A29.out).mono ?_
   rintro e w35 ⟨rfl,hb⟩
   refine ⟨_,rfl,?_⟩
   have n0_:=aK_ (RB_below (by (with_reducible repeat (first|apply RB_alloc|apply RB_drewN|apply RB_drew));exact HO_24.out) hb)
   have n1_:=aK_ (zAC (g:=gb158) (o:=.cells #[.int .i64 x159000_1,.int .u64 x159001_1] 32 (0,0)) (aB_ BK158.out) hb)
   have n2_:=aK_ (zAC (g:=gb162) (o:=.cells #[.int .i64 x163000_1,.int .u64 x163001_1] 32 (0,0)) (aB_ BK162.out) hb)
   have n3_:=aK_ (zAC (g:=gb169) (o:=.cells #[.int .i64 x170000_15,.int .u64 x170001_15] 32 (0,0)) (aB_ BK169.out) hb)
   have n4_:=aK_ (zAE (aQ_ HB.out GE158.out GE162.out GE169.out) hb)
   clear HO_24
   clear BK158
   clear BK162
   clear BK169
   clear HB
   have HO_24:=n0_
   have BK158:=n1_
   have BK162:=n2_
   have BK169:=n3_
   have HB:=n4_
   clear n0_ n1_ n2_ n3_ n4_
   (try clear hb)
   (try clear hb2)
   (try clear hk)
   (try clear hi)
   refine hK.out _ _ ⟨(zAB BK162.out 0).trans rfl,(zAB BK162.out 1).trans rfl⟩ (fun hHeld=>?_)
   clear hK K
   refine norm_ (a':=?_) ?_ ?_
   rotate_left
   ·show Act.put _ (some 42) _=_
    simp only [Act.put,List.setIfInBounds_toArray,List.set_cons_zero,List.set_cons_succ,zAO,zAR]
    rfl
   refine two_ (i:=2) (j:=6) (Ni:=some 43) (Nj:=some 11) #[true,true,true,false,false,false,false,false,false] #[true,true,false,false,false,false,true,false,false] rfl rfl rfl rfl (two_of HT_.out (by kernel_rfl)) (by decide) (by decide) (fun K hK=>?_) (fun K hK=>?_)
   ·skip
    refine goes_ Tryz.func21 (by kernel_rfl) rfl #[.agg #[.int .i64 x163000_1,.int .u64 x163001_1],.agg #[.int .i64 t173,.int .u64 t174]] (by rfl) rfl rfl aM_ ?_
    with_reducible refine (times_Mul.calls kj15 x163000_1 x163001_1 t173 t174 t175 t176 t177 _ A30.out).mono ?_
    rintro e w36 ⟨rfl,hb⟩
    refine ⟨_,rfl,?_⟩
    have n0_:=aK_ (RB_below (by (with_reducible repeat (first|apply RB_alloc|apply RB_drewN|apply RB_drew));exact HO_24.out) hb)
    have n1_:=aK_ (zAC (g:=gb158) (o:=.cells #[.int .i64 x159000_1,.int .u64 x159001_1] 32 (0,0)) (aB_ BK158.out) hb)
    have n2_:=aK_ (zAC (g:=gb162) (o:=.cells #[.int .i64 x163000_1,.int .u64 x163001_1] 32 (0,0)) (aB_ BK162.out) hb)
    have n3_:=aK_ (zAC (g:=gb169) (o:=.cells #[.int .i64 x170000_15,.int .u64 x170001_15] 32 (0,0)) (aB_ BK169.out) hb)
    have n4_:=aK_ (zAE (aQ_ HB.out GE158.out GE162.out GE169.out) hb)
    clear HO_24
    clear BK158
    clear BK162
    clear BK169
    clear HB
    have HO_24:=n0_
    have BK158:=n1_
    have BK162:=n2_
    have BK169:=n3_
    have HB:=n4_
    clear n0_ n1_ n2_ n3_ n4_
    (try clear hb)
    (try clear hb2)
    (try clear hk)
    (try clear hi)
    refine hK.out _ _ ⟨(zAB BK162.out 0).trans rfl,(zAB BK162.out 1).trans rfl⟩ (fun hHeld=>?_)
    clear hK K
    refine norm_ (a':=?_) ?_ ?_
    rotate_left
    ·show Act.put _ (some 43) _=_
     simp only [Act.put,List.setIfInBounds_toArray,List.set_cons_zero,List.set_cons_succ,zAO,zAR]
     rfl
    refine zAa (i:=3) (N:=some 40) (v:=?_) (a':=?_) #[true,true,true,true,false,false,false,false,false] rfl rfl (zAN HT_.out (by kernel_rfl)) (fun _ _ _ h=>h) (Or.inl ⟨by rfl,?_⟩) ?_ ?_
    rotate_left
    ·intro w'
     go_simp
     with_reducible rfl
    rotate_left
    ·simp only [Act.put,List.setIfInBounds_toArray,List.set_cons_zero,List.set_cons_succ,zAO,zAR]
     rfl
    refine zAa (i:=4) (N:=some 44) (v:=?_) (a':=?_) #[true,true,true,true,true,false,false,false,false] rfl rfl (zAN HT_.out (by kernel_rfl)) (fun _ _ _ h=>h) (Or.inl ⟨by rfl,?_⟩) ?_ ?_
    rotate_left
    ·intro w'
     go_simp
     with_reducible rfl
    rotate_left
    ·simp only [Act.put,List.setIfInBounds_toArray,List.set_cons_zero,List.set_cons_succ,zAO,zAR]
     rfl
    refine zAa (i:=5) (N:=some 45) (v:=?_) (a':=?_) #[true,true,true,true,true,true,false,false,false] rfl rfl (zAN HT_.out (by kernel_rfl)) (fun _ _ _ h=>h) (Or.inl ⟨by rfl,?_⟩) ?_ ?_
    rotate_left
    ·intro w'
     go_simp
     with_reducible rfl
    rotate_left
    ·simp only [Act.put,List.setIfInBounds_toArray,List.set_cons_zero,List.set_cons_succ,zAO,zAR]
     rfl
    refine one_ (i:=6) (N:=some 11) #[true,true,true,true,true,true,true,false,false] rfl rfl (one_of HT_.out (by kernel_rfl)) (by decide) (fun K hK=>?_)
    refine box_step ?hg (N:=11) ?hd (cs:=#[.int .i64 0,.int .u64 0]) (t:=32) ?hr ?_;(case hd=>rfl);(case hg=>rfl);(case hr=>first|(go_simp;done)|(go_simp;rfl))
    intro gb178 hg w37 hbox hb
    have n0_:=aK_ (RB_below (by (with_reducible repeat (first|apply RB_alloc|apply RB_drewN|apply RB_drew));exact HO_24.out) hb)
    have n1_:=aK_ (zAC (g:=gb158) (o:=.cells #[.int .i64 x159000_1,.int .u64 x159001_1] 32 (0,0)) (aB_ BK158.out) hb)
    have n2_:=aK_ (zAC (g:=gb162) (o:=.cells #[.int .i64 x163000_1,.int .u64 x163001_1] 32 (0,0)) (aB_ BK162.out) hb)
    have n3_:=aK_ (zAC (g:=gb169) (o:=.cells #[.int .i64 x170000_15,.int .u64 x170001_15] 32 (0,0)) (aB_ BK169.out) hb)
    have n4_:=aK_ (zAE (aQ_ HB.out GE158.out GE162.out GE169.out) hb)
    have n5_:=aK_ (hbox)
    have n6_:=aK_ ((by rw [hg];exact (zAF (aQ_ HB.out GE158.out GE162.out GE169.out)):w.heap.size≤gb178))
    have n7_:=aK_ ((by rw [hg];exact (zAF (aQ_ HB.out GE158.out GE162.out GE169.out)):w.heap.size≤gb178))
    have n8_:=aK_ ((by rw [hg];exact Nat.ne_of_lt (zAK (g:=gb158) (o:=.cells #[.int .i64 x159000_1,.int .u64 x159001_1] 32 (0,0)) (aB_ BK158.out)):gb158≠gb178))
    have n9_:=aK_ ((by rw [hg];exact Nat.ne_of_gt (zAK (g:=gb158) (o:=.cells #[.int .i64 x159000_1,.int .u64 x159001_1] 32 (0,0)) (aB_ BK158.out)):gb178≠gb158))
    have n10_:=aK_ ((by rw [hg];exact Nat.ne_of_lt (zAK (g:=gb162) (o:=.cells #[.int .i64 x163000_1,.int .u64 x163001_1] 32 (0,0)) (aB_ BK162.out)):gb162≠gb178))
    have n11_:=aK_ ((by rw [hg];exact Nat.ne_of_gt (zAK (g:=gb162) (o:=.cells #[.int .i64 x163000_1,.int .u64 x163001_1] 32 (0,0)) (aB_ BK162.out)):gb178≠gb162))
    have n12_:=aK_ ((by rw [hg];exact Nat.ne_of_lt (zAK (g:=gb169) (o:=.cells #[.int .i64 x170000_15,.int .u64 x170001_15] 32 (0,0)) (aB_ BK169.out)):gb169≠gb178))
    have n13_:=aK_ ((by rw [hg];exact Nat.ne_of_gt (zAK (g:=gb169) (o:=.cells #[.int .i64 x170000_15,.int .u64 x170001_15] 32 (0,0)) (aB_ BK169.out)):gb178≠gb169))
    clear HO_24
    clear BK158
    clear BK162
    clear BK169
    clear HB
    have HO_24:=n0_
    have BK158:=n1_
    have BK162:=n2_
    have BK169:=n3_
    have HB:=n4_
    have BK178:=n5_
    have GW178:=n6_
    have GE178:=n7_
    have NB158_178:=n8_
    have NB178_158:=n9_
    have NB162_178:=n10_
    have NB178_162:=n11_
    have NB169_178:=n12_
    have NB178_169:=n13_
    clear n0_ n1_ n2_ n3_ n4_ n5_ n6_ n7_ n8_ n9_ n10_ n11_ n12_ n13_
    clear hb hbox hg
    refine hK.out _ _ ⟨(zAB BK162.out 0).trans rfl,(zAB BK162.out 1).trans rfl⟩ (fun hHeld=>?_)
    clear hK K
    refine norm_ (a':=?_) ?_ ?_
    rotate_left
    ·show Act.put _ (some 11) _=_
     simp only [Act.put,List.setIfInBounds_toArray,List.set_cons_zero,List.set_cons_succ,zAO,zAR]
     rfl
    exact norm_ (by simp only [putAll,Act.put,List.setIfInBounds_toArray,List.set_cons_zero,List.set_cons_succ]) (hCont (gb178) _ ⟨hHeld,(by (with_reducible repeat (first|apply RB_alloc|apply RB_drewN|apply RB_drew));exact HO_24.out),(aB_ BK158.out),(aB_ BK162.out),(aB_ BK169.out),(aB_ BK178.out),GW178.out,GE178.out,NB158_178.out,NB178_158.out,NB162_178.out,NB178_162.out,NB169_178.out,NB178_169.out,(aU_ HB.out GE158.out GE162.out GE169.out GE178.out)⟩)
   ·skip
    refine box_step ?hg (N:=11) ?hd (cs:=#[.int .i64 0,.int .u64 0]) (t:=32) ?hr ?_;(case hd=>rfl);(case hg=>rfl);(case hr=>first|(go_simp;done)|(go_simp;rfl))
    intro gb178 hg w36 hbox hb
    have n0_:=aK_ (RB_below (by (with_reducible repeat (first|apply RB_alloc|apply RB_drewN|apply RB_drew));exact HO_24.out) hb)
    have n1_:=aK_ (zAC (g:=gb158) (o:=.cells #[.int .i64 x159000_1,.int .u64 x159001_1] 32 (0,0)) (aB_ BK158.out) hb)
    have n2_:=aK_ (zAC (g:=gb162) (o:=.cells #[.int .i64 x163000_1,.int .u64 x163001_1] 32 (0,0)) (aB_ BK162.out) hb)
    have n3_:=aK_ (zAC (g:=gb169) (o:=.cells #[.int .i64 x170000_15,.int .u64 x170001_15] 32 (0,0)) (aB_ BK169.out) hb)
    have n4_:=aK_ (zAE (aQ_ HB.out GE158.out GE162.out GE169.out) hb)
    have n5_:=aK_ (hbox)
    have n6_:=aK_ ((by rw [hg];exact (zAF (aQ_ HB.out GE158.out GE162.out GE169.out)):w.heap.size≤gb178))
    have n7_:=aK_ ((by rw [hg];exact (zAF (aQ_ HB.out GE158.out GE162.out GE169.out)):w.heap.size≤gb178))
    have n8_:=aK_ ((by rw [hg];exact Nat.ne_of_lt (zAK (g:=gb158) (o:=.cells #[.int .i64 x159000_1,.int .u64 x159001_1] 32 (0,0)) (aB_ BK158.out)):gb158≠gb178))
    have n9_:=aK_ ((by rw [hg];exact Nat.ne_of_gt (zAK (g:=gb158) (o:=.cells #[.int .i64 x159000_1,.int .u64 x159001_1] 32 (0,0)) (aB_ BK158.out)):gb178≠gb158))
    have n10_:=aK_ ((by rw [hg];exact Nat.ne_of_lt (zAK (g:=gb162) (o:=.cells #[.int .i64 x163000_1,.int .u64 x163001_1] 32 (0,0)) (aB_ BK162.out)):gb162≠gb178))
    have n11_:=aK_ ((by rw [hg];exact Nat.ne_of_gt (zAK (g:=gb162) (o:=.cells #[.int .i64 x163000_1,.int .u64 x163001_1] 32 (0,0)) (aB_ BK162.out)):gb178≠gb162))
    have n12_:=aK_ ((by rw [hg];exact Nat.ne_of_lt (zAK (g:=gb169) (o:=.cells #[.int .i64 x170000_15,.int .u64 x170001_15] 32 (0,0)) (aB_ BK169.out)):gb169≠gb178))
    have n13_:=aK_ ((by rw [hg];exact Nat.ne_of_gt (zAK (g:=gb169) (o:=.cells #[.int .i64 x170000_15,.int .u64 x170001_15] 32 (0,0)) (aB_ BK169.out)):gb178≠gb169))
    clear HO_24
    clear BK158
    clear BK162
    clear BK169
    clear HB
    have HO_24:=n0_
    have BK158:=n1_
    have BK162:=n2_
    have BK169:=n3_
    have HB:=n4_
    have BK178:=n5_
    have GW178:=n6_
    have GE178:=n7_
    have NB158_178:=n8_
    have NB178_158:=n9_
    have NB162_178:=n10_
    have NB178_162:=n11_
    have NB169_178:=n12_
    have NB178_169:=n13_
    clear n0_ n1_ n2_ n3_ n4_ n5_ n6_ n7_ n8_ n9_ n10_ n11_ n12_ n13_
    clear hb hbox hg
    refine hK.out _ _ ⟨(zAB BK162.out 0).trans rfl,(zAB BK162.out 1).trans rfl⟩ (fun hHeld=>?_)
    clear hK K
    refine norm_ (a':=?_) ?_ ?_
    rotate_left
    ·show Act.put _ (some 11) _=_
     simp only [Act.put,List.setIfInBounds_toArray,List.set_cons_zero,List.set_cons_succ,zAO,zAR]
     rfl
    refine one_ (i:=2) (N:=some 43) #[true,true,true,false,false,false,true,false,false] rfl rfl (one_of HT_.out (by kernel_rfl)) (by decide) (fun K hK=>?_)
    refine goes_ Tryz.func21 (by kernel_rfl) rfl #[.agg #[.int .i64 x163000_1,.int .u64 x163001_1],.agg #[.int .i64 t173,.int .u64 t174]] (by rfl) rfl rfl aM_ ?_
    with_reducible refine (times_Mul.calls kj15 x163000_1 x163001_1 t173 t174 t175 t176 t177 _ A30.out).mono ?_
    rintro e w37 ⟨rfl,hb⟩
    refine ⟨_,rfl,?_⟩
    have n0_:=aK_ (RB_below (by (with_reducible repeat (first|apply RB_alloc|apply RB_drewN|apply RB_drew));exact HO_24.out) hb)
    have n1_:=aK_ (zAC (g:=gb158) (o:=.cells #[.int .i64 x159000_1,.int .u64 x159001_1] 32 (0,0)) (aB_ BK158.out) hb)
    have n2_:=aK_ (zAC (g:=gb162) (o:=.cells #[.int .i64 x163000_1,.int .u64 x163001_1] 32 (0,0)) (aB_ BK162.out) hb)
    have n3_:=aK_ (zAC (g:=gb169) (o:=.cells #[.int .i64 x170000_15,.int .u64 x170001_15] 32 (0,0)) (aB_ BK169.out) hb)
    have n4_:=aK_ (zAC (g:=gb178) (o:=.cells #[.int .i64 0,.int .u64 0] 32 (0,0)) (aB_ BK178.out) hb)
    have n5_:=aK_ (zAE (aU_ HB.out GE158.out GE162.out GE169.out GE178.out) hb)
    clear HO_24
    clear BK158
    clear BK162
    clear BK169
    clear BK178
    clear HB
    have HO_24:=n0_
    have BK158:=n1_
    have BK162:=n2_
    have BK169:=n3_
    have BK178:=n4_
    have HB:=n5_
    clear n0_ n1_ n2_ n3_ n4_ n5_
    (try clear hb)
    (try clear hb2)
    (try clear hk)
    (try clear hi)
    refine hK.out _ _ ⟨(zAB BK162.out 0).trans rfl,(zAB BK162.out 1).trans rfl⟩ (fun hHeld=>?_)
    clear hK K
    refine norm_ (a':=?_) ?_ ?_
    rotate_left
    ·show Act.put _ (some 43) _=_
     simp only [Act.put,List.setIfInBounds_toArray,List.set_cons_zero,List.set_cons_succ,zAO,zAR]
     rfl
    refine zAa (i:=3) (N:=some 40) (v:=?_) (a':=?_) #[true,true,true,true,false,false,true,false,false] rfl rfl (zAN HT_.out (by kernel_rfl)) (fun _ _ _ h=>h) (Or.inl ⟨by rfl,?_⟩) ?_ ?_
    rotate_left
    ·intro w'
     go_simp
     with_reducible rfl
    rotate_left
    ·simp only [Act.put,List.setIfInBounds_toArray,List.set_cons_zero,List.set_cons_succ,zAO,zAR]
     rfl
    refine zAa (i:=4) (N:=some 44) (v:=?_) (a':=?_) #[true,true,true,true,true,false,true,false,false] rfl rfl (zAN HT_.out (by kernel_rfl)) (fun _ _ _ h=>h) (Or.inl ⟨by rfl,?_⟩) ?_ ?_
    rotate_left
    ·intro w'
     go_simp
     with_reducible rfl
    rotate_left
    ·simp only [Act.put,List.setIfInBounds_toArray,List.set_cons_zero,List.set_cons_succ,zAO,zAR]
     rfl
    refine zAa (i:=5) (N:=some 45) (v:=?_) (a':=?_) #[true,true,true,true,true,true,true,false,false] rfl rfl (zAN HT_.out (by kernel_rfl)) (fun _ _ _ h=>h) (Or.inl ⟨by rfl,?_⟩) ?_ ?_
    rotate_left
    ·intro w'
     go_simp
     with_reducible rfl
    rotate_left
    ·simp only [Act.put,List.setIfInBounds_toArray,List.set_cons_zero,List.set_cons_succ,zAO,zAR]
     rfl
    exact norm_ (by simp only [putAll,Act.put,List.setIfInBounds_toArray,List.set_cons_zero,List.set_cons_succ]) (hCont (gb178) _ ⟨hHeld,(by (with_reducible repeat (first|apply RB_alloc|apply RB_drewN|apply RB_drew));exact HO_24.out),(aB_ BK158.out),(aB_ BK162.out),(aB_ BK169.out),(aB_ BK178.out),GW178.out,GE178.out,NB158_178.out,NB178_158.out,NB162_178.out,NB178_162.out,NB169_178.out,NB178_169.out,(aU_ HB.out GE158.out GE162.out GE169.out GE178.out)⟩)
  ·skip
   refine box_step ?hg (N:=11) ?hd (cs:=#[.int .i64 0,.int .u64 0]) (t:=32) ?hr ?_;(case hd=>rfl);(case hg=>rfl);(case hr=>first|(go_simp;done)|(go_simp;rfl))
   intro gb178 hg w35 hbox hb
   have n0_:=aK_ (RB_below (by (with_reducible repeat (first|apply RB_alloc|apply RB_drewN|apply RB_drew));exact HO_24.out) hb)
   have n1_:=aK_ (zAC (g:=gb158) (o:=.cells #[.int .i64 x159000_1,.int .u64 x159001_1] 32 (0,0)) (aB_ BK158.out) hb)
   have n2_:=aK_ (zAC (g:=gb162) (o:=.cells #[.int .i64 x163000_1,.int .u64 x163001_1] 32 (0,0)) (aB_ BK162.out) hb)
   have n3_:=aK_ (zAC (g:=gb169) (o:=.cells #[.int .i64 x170000_15,.int .u64 x170001_15] 32 (0,0)) (aB_ BK169.out) hb)
   have n4_:=aK_ (zAE (aQ_ HB.out GE158.out GE162.out GE169.out) hb)
   have n5_:=aK_ (hbox)
   have n6_:=aK_ ((by rw [hg];exact (zAF (aQ_ HB.out GE158.out GE162.out GE169.out)):w.heap.size≤gb178))
   have n7_:=aK_ ((by rw [hg];exact (zAF (aQ_ HB.out GE158.out GE162.out GE169.out)):w.heap.size≤gb178))
   have n8_:=aK_ ((by rw [hg];exact Nat.ne_of_lt (zAK (g:=gb158) (o:=.cells #[.int .i64 x159000_1,.int .u64 x159001_1] 32 (0,0)) (aB_ BK158.out)):gb158≠gb178))
   have n9_:=aK_ ((by rw [hg];exact Nat.ne_of_gt (zAK (g:=gb158) (o:=.cells #[.int .i64 x159000_1,.int .u64 x159001_1] 32 (0,0)) (aB_ BK158.out)):gb178≠gb158))
   have n10_:=aK_ ((by rw [hg];exact Nat.ne_of_lt (zAK (g:=gb162) (o:=.cells #[.int .i64 x163000_1,.int .u64 x163001_1] 32 (0,0)) (aB_ BK162.out)):gb162≠gb178))
   have n11_:=aK_ ((by rw [hg];exact Nat.ne_of_gt (zAK (g:=gb162) (o:=.cells #[.int .i64 x163000_1,.int .u64 x163001_1] 32 (0,0)) (aB_ BK162.out)):gb178≠gb162))
   have n12_:=aK_ ((by rw [hg];exact Nat.ne_of_lt (zAK (g:=gb169) (o:=.cells #[.int .i64 x170000_15,.int .u64 x170001_15] 32 (0,0)) (aB_ BK169.out)):gb169≠gb178))
   have n13_:=aK_ ((by rw [hg];exact Nat.ne_of_gt (zAK (g:=gb169) (o:=.cells #[.int .i64 x170000_15,.int .u64 x170001_15] 32 (0,0)) (aB_ BK169.out)):gb178≠gb169))
   clear HO_24
   clear BK158
   clear BK162
   clear BK169
   clear HB
   have HO_24:=n0_
   have BK158:=n1_
   have BK162:=n2_
   have BK169:=n3_
   have HB:=n4_
   have BK178:=n5_
   have GW178:=n6_
   have GE178:=n7_
   have NB158_178:=n8_
   have NB178_158:=n9_
   have NB162_178:=n10_
   have NB178_162:=n11_
   have NB169_178:=n12_
   have NB178_169:=n13_
   clear n0_ n1_ n2_ n3_ n4_ n5_ n6_ n7_ n8_ n9_ n10_ n11_ n12_ n13_
   clear hb hbox hg
   refine hK.out _ _ ⟨(zAB BK162.out 0).trans rfl,(zAB BK162.out 1).trans rfl⟩ (fun hHeld=>?_)
   clear hK K
   refine norm_ (a':=?_) ?_ ?_
   rotate_left
   ·show Act.put _ (some 11) _=_
    simp only [Act.put,List.setIfInBounds_toArray,List.set_cons_zero,List.set_cons_succ,zAO,zAR]
    rfl
   refine one_ (i:=1) (N:=some 42) #[true,true,false,false,false,false,true,false,false] rfl rfl (one_of HT_.out (by kernel_rfl)) (by decide) (fun K hK=>?_)
   refine goes_ Tryz.func10 (by kernel_rfl) rfl #[.int .i64 10] (by rfl) rfl rfl aM_ ?_
   with_reducible refine (wide_Of.calls 10 t173 t174 _ A29.out).mono ?_
   rintro e w36 ⟨rfl,hb⟩
   refine ⟨_,rfl,?_⟩
   have n0_:=aK_ (RB_below (by (with_reducible repeat (first|apply RB_alloc|apply RB_drewN|apply RB_drew));exact HO_24.out) hb)
   have n1_:=aK_ (zAC (g:=gb158) (o:=.cells #[.int .i64 x159000_1,.int .u64 x159001_1] 32 (0,0)) (aB_ BK158.out) hb)
   have n2_:=aK_ (zAC (g:=gb162) (o:=.cells #[.int .i64 x163000_1,.int .u64 x163001_1] 32 (0,0)) (aB_ BK162.out) hb)
   have n3_:=aK_ (zAC (g:=gb169) (o:=.cells #[.int .i64 x170000_15,.int .u64 x170001_15] 32 (0,0)) (aB_ BK169.out) hb)
   have n4_:=aK_ (zAC (g:=gb178) (o:=.cells #[.int .i64 0,.int .u64 0] 32 (0,0)) (aB_ BK178.out) hb)
   have n5_:=aK_ (zAE (aU_ HB.out GE158.out GE162.out GE169.out GE178.out) hb)
   clear HO_24
   clear BK158
   clear BK162
   clear BK169
   clear BK178
   clear HB
   have HO_24:=n0_
   have BK158:=n1_
   have BK162:=n2_
   have BK169:=n3_
   have BK178:=n4_
   have HB:=n5_
   clear n0_ n1_ n2_ n3_ n4_ n5_
   (try clear hb)
   (try clear hb2)
   (try clear hk)
   (try clear hi)
   refine hK.out _ _ ⟨(zAB BK162.out 0).trans rfl,(zAB BK162.out 1).trans rfl⟩ (fun hHeld=>?_)
   clear hK K
   refine norm_ (a':=?_) ?_ ?_
   rotate_left
   ·show Act.put _ (some 42) _=_
    simp only [Act.put,List.setIfInBounds_toArray,List.set_cons_zero,List.set_cons_succ,zAO,zAR]
    rfl
   refine one_ (i:=2) (N:=some 43) #[true,true,true,false,false,false,true,false,false] rfl rfl (one_of HT_.out (by kernel_rfl)) (by decide) (fun K hK=>?_)
   refine goes_ Tryz.func21 (by kernel_rfl) rfl #[.agg #[.int .i64 x163000_1,.int .u64 x163001_1],.agg #[.int .i64 t173,.int .u64 t174]] (by rfl) rfl rfl aM_ ?_
   with_reducible refine (times_Mul.calls kj15 x163000_1 x163001_1 t173 t174 t175 t176 t177 _ A30.out).mono ?_
   rintro e w37 ⟨rfl,hb⟩
   refine ⟨_,rfl,?_⟩
   have n0_:=aK_ (RB_below (by (with_reducible repeat (first|apply RB_alloc|apply RB_drewN|apply RB_drew));exact HO_24.out) hb)
   have n1_:=aK_ (zAC (g:=gb158) (o:=.cells #[.int .i64 x159000_1,.int .u64 x159001_1] 32 (0,0)) (aB_ BK158.out) hb)
   have n2_:=aK_ (zAC (g:=gb162) (o:=.cells #[.int .i64 x163000_1,.int .u64 x163001_1] 32 (0,0)) (aB_ BK162.out) hb)
   have n3_:=aK_ (zAC (g:=gb169) (o:=.cells #[.int .i64 x170000_15,.int .u64 x170001_15] 32 (0,0)) (aB_ BK169.out) hb)
   have n4_:=aK_ (zAC (g:=gb178) (o:=.cells #[.int .i64 0,.int .u64 0] 32 (0,0)) (aB_ BK178.out) hb)
   have n5_:=aK_ (zAE (aU_ HB.out GE158.out GE162.out GE169.out GE178.out) hb)
   clear HO_24
   clear BK158
   clear BK162
   clear BK169
   clear BK178
   clear HB
   have HO_24:=n0_
   have BK158:=n1_
   have BK162:=n2_
   have BK169:=n3_
   have BK178:=n4_
   have HB:=n5_
   clear n0_ n1_ n2_ n3_ n4_ n5_
   (try clear hb)
   (try clear hb2)
   (try clear hk)
   (try clear hi)
   refine hK.out _ _ ⟨(zAB BK162.out 0).trans rfl,(zAB BK162.out 1).trans rfl⟩ (fun hHeld=>?_)
   clear hK K
   refine norm_ (a':=?_) ?_ ?_
   rotate_left
   ·show Act.put _ (some 43) _=_
    simp only [Act.put,List.setIfInBounds_toArray,List.set_cons_zero,List.set_cons_succ,zAO,zAR]
    rfl
   refine zAa (i:=3) (N:=some 40) (v:=?_) (a':=?_) #[true,true,true,true,false,false,true,false,false] rfl rfl (zAN HT_.out (by kernel_rfl)) (fun _ _ _ h=>h) (Or.inl ⟨by rfl,?_⟩) ?_ ?_
   rotate_left
   ·intro w'
    go_simp
    with_reducible rfl
   rotate_left
   ·simp only [Act.put,List.setIfInBounds_toArray,List.set_cons_zero,List.set_cons_succ,zAO,zAR]
    rfl
   refine zAa (i:=4) (N:=some 44) (v:=?_) (a':=?_) #[true,true,true,true,true,false,true,false,false] rfl rfl (zAN HT_.out (by kernel_rfl)) (fun _ _ _ h=>h) (Or.inl ⟨by rfl,?_⟩) ?_ ?_
   rotate_left
   ·intro w'
    go_simp
    with_reducible rfl
   rotate_left
   ·simp only [Act.put,List.setIfInBounds_toArray,List.set_cons_zero,List.set_cons_succ,zAO,zAR]
    rfl
   refine zAa (i:=5) (N:=some 45) (v:=?_) (a':=?_) #[true,true,true,true,true,true,true,false,false] rfl rfl (zAN HT_.out (by kernel_rfl)) (fun _ _ _ h=>h) (Or.inl ⟨by rfl,?_⟩) ?_ ?_
   rotate_left
   ·intro w'
    go_simp
    with_reducible rfl
   rotate_left
   ·simp only [Act.put,List.setIfInBounds_toArray,List.set_cons_zero,List.set_cons_succ,zAO,zAR]
    rfl
   exact norm_ (by simp only [putAll,Act.put,List.setIfInBounds_toArray,List.set_cons_zero,List.set_cons_succ]) (hCont (gb178) _ ⟨hHeld,(by (with_reducible repeat (first|apply RB_alloc|apply RB_drewN|apply RB_drew));exact HO_24.out),(aB_ BK158.out),(aB_ BK162.out),(aB_ BK169.out),(aB_ BK178.out),GW178.out,GE178.out,NB158_178.out,NB178_158.out,NB162_178.out,NB178_162.out,NB169_178.out,NB178_169.out,(aU_ HB.out GE158.out GE162.out GE169.out GE178.out)⟩)
 rintro gb178 w38 ⟨hS_,h0_,h1_,h2_,h3_,h4_,h5_,h6_,h7_,h8_,h9_,h10_,h11_,h12_,h13_⟩
 have n0_:zAG (RB w38 w.heap.size (fun _=>True) (.slice (some ad166) t163.length co11) t163):=⟨h0_⟩
 have n1_:zAG (w38.heap[gb158]?=some (.cells #[.int .i64 x159000_1,.int .u64 x159001_1] 32 (0,0))):=⟨h1_⟩
 have n2_:zAG (w38.heap[gb162]?=some (.cells #[.int .i64 x163000_1,.int .u64 x163001_1] 32 (0,0))):=⟨h2_⟩
 have n3_:zAG (w38.heap[gb169]?=some (.cells #[.int .i64 x170000_15,.int .u64 x170001_15] 32 (0,0))):=⟨h3_⟩
 have n4_:zAG (w38.heap[gb178]?=some (.cells #[.int .i64 0,.int .u64 0] 32 (0,0))):=⟨h4_⟩
 have n5_:zAG (w.heap.size≤gb178):=⟨h5_⟩
 have n6_:zAG (w.heap.size≤gb178):=⟨h6_⟩
 have n7_:zAG (gb158≠gb178):=⟨h7_⟩
 have n8_:zAG (gb178≠gb158):=⟨h8_⟩
 have n9_:zAG (gb162≠gb178):=⟨h9_⟩
 have n10_:zAG (gb178≠gb162):=⟨h10_⟩
 have n11_:zAG (gb169≠gb178):=⟨h11_⟩
 have n12_:zAG (gb178≠gb169):=⟨h12_⟩
 have n13_:zAG (Below w.heap.size w w38):=⟨h13_⟩
 clear HO_24
 clear BK158
 clear BK162
 clear BK169
 clear HB
 clear h0_ h1_ h2_ h3_ h4_ h5_ h6_ h7_ h8_ h9_ h10_ h11_ h12_ h13_
 have HO_24:=n0_
 have BK158:=n1_
 have BK162:=n2_
 have BK169:=n3_
 have BK178:=n4_
 have GW178:=n5_
 have GE178:=n6_
 have NB158_178:=n7_
 have NB178_158:=n8_
 have NB162_178:=n9_
 have NB178_162:=n10_
 have NB169_178:=n11_
 have NB178_169:=n12_
 have HB:=n13_
 clear n0_ n1_ n2_ n3_ n4_ n5_ n6_ n7_ n8_ n9_ n10_ n11_ n12_ n13_
 have hHeld:w38.cell? ⟨gb162,0,none⟩=some (.int .i64 x163000_1)∧w38.cell? ⟨gb162,1,none⟩=some (.int .u64 x163001_1):=hS_
 refine norm_ (a':=?_) ?_ ?_
 rotate_left
 ·simp only [putAll,Act.put,List.setIfInBounds_toArray,List.set_cons_zero,List.set_cons_succ]
  rfl
 refine one_ (i:=7) (N:=none) #[true,true,true,true,true,true,true,true,false] rfl rfl (one_of HT_.out (by kernel_rfl)) (by decide) (fun K hK=>?_)
 have hs39:w38.cell? ⟨gb178,0,none⟩=some (.int .i64 0):=(zAB BK178.out 0).trans rfl
 have hfs39:=zAA BK178.out 0
 have hns39_0:=NB158_178.out
 have hns39_1:=NB162_178.out
 have hns39_2:=NB169_178.out
 have hms39_0:=NB178_158.out
 have hms39_1:=NB178_162.out
 have hms39_2:=NB178_169.out
 have hs40:w38.cell? ⟨gb178,1,none⟩=some (.int .u64 0):=(zAB BK178.out 1).trans rfl
 have hfs40:=zAA BK178.out 1
 have hns40_0:=NB158_178.out
 have hns40_1:=NB162_178.out
 have hns40_2:=NB169_178.out
 have hms40_0:=NB178_158.out
 have hms40_1:=NB178_162.out
 have hms40_2:=NB178_169.out
 refine skip_ (w1:=?_) (by rfl) rfl ?_ ?_
 rotate_left
 ·go_simp
  rfl
 refine hK.out _ _ ⟨((cell_far (p:=⟨gb178,_,none⟩) NB162_178.out _).trans (((cell_far (p:=⟨gb178,_,none⟩) NB162_178.out _).trans (hHeld.1)))),((cell_far (p:=⟨gb178,_,none⟩) NB162_178.out _).trans (((cell_far (p:=⟨gb178,_,none⟩) NB162_178.out _).trans (hHeld.2))))⟩ (fun hHeld=>?_)
 clear hK K
 refine zAa (i:=8) (N:=some 12) (v:=?_) (a':=?_) #[true,true,true,true,true,true,true,true,true] rfl rfl (zAN HT_.out (by kernel_rfl)) (fun _ _ _ h=>h) (Or.inl ⟨by rfl,?_⟩) ?_ ?_
 rotate_left
 ·intro w'
  go_simp
  with_reducible rfl
 rotate_left
 ·simp only [Act.put,List.setIfInBounds_toArray,List.set_cons_zero,List.set_cons_succ,zAO,zAR]
  rfl
 refine done_ (done_of HT_.out (by kernel_rfl)) ?_
 have hnb41:=NB178_158.out
 have hnc41:=NB158_178.out
 have hnb42:=NB178_162.out
 have hnc42:=NB162_178.out
 have hnb43:=NB178_169.out
 have hnc43:=NB169_178.out
 have hcz44_0:w38.cell? ⟨gb178,0,none⟩=some (.int .i64 0):=(zAB BK178.out 0).trans rfl
 have hcz44_1:w38.cell? ⟨gb178,1,none⟩=some (.int .u64 0):=(zAB BK178.out 1).trans rfl
 have hfz44_0:=zAA BK178.out 0
 have hfz44_1:=zAA BK178.out 1
 have hnb45:=NB169_158.out
 have hnc45:=NB158_169.out
 have hnb46:=NB169_162.out
 have hnc46:=NB162_169.out
 have hcz47_0:w38.cell? ⟨gb169,0,none⟩=some (.int .i64 x170000_15):=(zAB BK169.out 0).trans rfl
 have hcz47_1:w38.cell? ⟨gb169,1,none⟩=some (.int .u64 x170001_15):=(zAB BK169.out 1).trans rfl
 have hfz47_0:=zAA BK169.out 0
 have hfz47_1:=zAA BK169.out 1
 try go_wp2_with (first|((with_reducible refine zAM (f:=22) rfl ?_);refine goesL_ (some 53) rfl rfl Tryz.func22 (by kernel_rfl) rfl #[.agg #[.int .i64 t175,.int .u64 t176],.agg #[.int .i64 x170000_15,.int .u64 x170001_15]] rfl aM_ ?_;(with_reducible refine (wide_Add.calls t175 t176 x170000_15 x170001_15 t179 t180 t181 _ A32.out).mono ?_);rintro e w48 ⟨rfl,hb⟩;refine ⟨_,rfl,?_⟩;have n0_:=aK_ (RB_below (by (with_reducible repeat (first|apply RB_alloc|apply RB_drewN|apply RB_drew));exact (RB_mono (RB_far (p:=⟨gb178,1,none⟩) (RB_far (p:=⟨gb178,0,none⟩) (RB_types HO_24.out BK178.out (by decide)) (fun _ hk=>hk.2) (.int .i64 t175)) (fun _ hk=>hk.2) (.int .u64 t176)) (fun _ h_=>h_.1))) hb);have n1_:=aK_ (zAC (g:=gb158) (o:=.cells #[.int .i64 x159000_1,.int .u64 x159001_1] 32 (0,0)) (by refine aB_ ?_;refine zAT ?_ NB158_178.out _;refine aB_ ?_;refine zAT ?_ NB158_178.out _;refine aB_ ?_;exact BK158.out) hb);have n2_:=aK_ (zAC (g:=gb162) (o:=.cells #[.int .i64 x163000_1,.int .u64 x163001_1] 32 (0,0)) (by refine aB_ ?_;refine zAT ?_ NB162_178.out _;refine aB_ ?_;refine zAT ?_ NB162_178.out _;refine aB_ ?_;exact BK162.out) hb);have n3_:=aK_ (zAC (g:=gb169) (o:=.cells #[.int .i64 x170000_15,.int .u64 x170001_15] 32 (0,0)) (by refine aB_ ?_;refine zAT ?_ NB169_178.out _;refine aB_ ?_;refine zAT ?_ NB169_178.out _;refine aB_ ?_;exact BK169.out) hb);have n4_:=aK_ (zAC (g:=gb178) (o:=.cells #[.int .i64 t175,.int .u64 t176] 32 (0,0)) (by refine aB_ ?_;refine zAW (cs:=#[.int .i64 t175,.int .u64 0]) ?_ 1 _ rfl;refine aB_ ?_;refine zAW (cs:=#[.int .i64 0,.int .u64 0]) ?_ 0 _ rfl;refine aB_ ?_;exact BK178.out) hb);have n5_:=aK_ (zAE (aU_ HB.out GE158.out GE162.out GE169.out GE178.out) hb);clear HO_24;clear BK158;clear BK162;clear BK169;clear BK178;clear HB;have HO_24:=n0_;have BK158:=n1_;have BK162:=n2_;have BK169:=n3_;have BK178:=n4_;have HB:=n5_;clear n0_ n1_ n2_ n3_ n4_ n5_;(try clear hb);(try clear hb2);(try clear hk);(try clear hi);have hnb49:=NB162_158.out;have hnc49:=NB158_162.out;have hcz50_0:w48.cell? ⟨gb162,0,none⟩=some (.int .i64 x163000_1):=(zAB BK162.out 0).trans rfl;have hcz50_1:w48.cell? ⟨gb162,1,none⟩=some (.int .u64 x163001_1):=(zAB BK162.out 1).trans rfl;have hfz50_0:=zAA BK162.out 0;have hfz50_1:=zAA BK162.out 1))
 go_roundg kj15
 case measure=>have:=HK1.out;have:=HJ15.out;omega
 case rel=>exact ⟨(wrap64 (x26_1+1)),(x159000_1),(x159001_1),(t179),(t180),aS2_,H',⟨by have:=HK1.out;have:=HJ15.out;omega⟩,⟨by (with_reducible repeat (first|apply RB_alloc|apply RB_drewN|apply RB_drew));exact RB_mono (RB_far (p:=⟨gb162,1,none⟩) (RB_far (p:=⟨gb162,0,none⟩) (RB_types HO_24.out BK162.out (by decide)) (fun _ hk=>hk.2) (.int .i64 t179)) (fun _ hk=>hk.2) (.int .u64 t180)) (fun _ hk=>trivial)⟩,⟨by refine aB_ ?_;refine zAT ?_ NB158_162.out _;refine aB_ ?_;refine zAT ?_ NB158_162.out _;refine aB_ ?_;exact BK158.out⟩,⟨by refine aB_ ?_;refine zAW (cs:=#[.int .i64 t179,.int .u64 x163001_1]) ?_ 1 _ rfl;refine aB_ ?_;refine zAW (cs:=#[.int .i64 x163000_1,.int .u64 x163001_1]) ?_ 0 _ rfl;refine aB_ ?_;exact BK162.out⟩,⟨aU_ HB.out GE158.out GE162.out GE169.out GE178.out⟩⟩
end Go.Proofs.YtkikekiokclmdaaGreatDoor.S

namespace Go.Proofs.YtkikekiokclmdaaGreatDoor.S
open Go.RowKit Go.Proofs.YtkikekiokclmdaaGreatDoorW.PrintWords Go.Proofs.YtkikekiokclmdaaGreatDoorW.PrintLast Go.Proofs.YtkikekiokclmdaaGreatDoorW.PrintMore
attribute [local go_sem] max2_int min2_int max_two min_two max_three min_three max_four min_four
def bits_Div64.f (x y d : Int) : Option (Int × Int) := if d = 10 ∧ 0 ≤ x ∧ x < 10 ∧ 0 ≤ y ∧ y < 18446744073709551616 then some ((x * 18446744073709551616 + y) / 10, (x * 18446744073709551616 + y) % 10) else none
set_option maxHeartbeats 8000000 in
set_option maxRecDepth 100000 in
theorem bits_Div64.calls (a0 a1 a2 r1 r2 : Int) (w : World) (h : bits_Div64.f a0 a1 a2 = some (r1, r2)) :
    Calls Tryz.prog 73 #[.int .u64 a0, .int .u64 a1, .int .u64 a2] w fun e w' => e = .returned (.tuple #[.int .u64 r1, .int .u64 r2]) ∧ zAe w w' := by
  unfold bits_Div64.f at h
  split at h
  · rename_i hh
    obtain ⟨rfl, h1, h1', h2, h2'⟩ := hh
    have h_ := Option.some.inj h
    clear h
    injection h_ with e1 e2
    have E1 := aK_ e1
    have E2 := aK_ e2
    clear e1 e2
    have B1 := aK_ (And.intro (And.intro h1 h1') (And.intro h2 h2'))
    by_cases hz : a0 = 0
    · subst hz
      have c0 : decide ((10 : Int) ≤ 0) = false := by decide
      clear h1 h1' h2 h2'
      go_enter Tryz.func73, Tryz.ntmps73
      go_wp2
      repeat (go_quiet (fail); try go_wp2)
      refine bodyPost_ret (results_list (rs := [.tmp 6, .tmp 7]) rfl (by simp) (.tmp (.tmp .nil))) rfl ?_
      refine ⟨?_, by repeat (first | exact zAe.refl _ | apply zAe.step)⟩
      show Ending.returned (Value.tuple #[Value.int IntKind.u64 (IntKind.u64.wrap (a1.tdiv 10)), Value.int IntKind.u64 (a1.tmod 10)]) = _
      obtain ⟨_, b2, b3⟩ := B1.out
      rw [← E1.out, ← E2.out, tdiv_pos' _ _ b2, tmod_pos' _ _ b2, wraps_u64' _ (by omega) (by omega)]
      simp
    · have c0 : decide ((10 : Int) ≤ a0) = false := decide_eq_false (by omega)
      have c1 : (a0 == 0) = false := by simp [hz]
      clear h1 h1' h2 h2'
      go_enter Tryz.func73, Tryz.ntmps73
      go_wp2_with (first | (go_at_call 94; (refine (Tryz.bits_LeadingZeros64 10 _ (by decide) (by decide)).mono ?_); rintro e w' ⟨rfl, rfl⟩; rw [show (64 - (Lib.bitLen (10 : Int).toNat : Int)) = 60 from by decide]; exact ⟨rfl, 0, rfl⟩) | (go_at_call 94; (refine (Tryz.bits_LeadingZeros64 10 _ (by decide) (by decide)).mono ?_); rintro e w' ⟨rfl, rfl⟩; rw [show (64 - (Lib.bitLen (10 : Int).toNat : Int)) = 60 from by decide]))
      repeat (go_quiet (first | (go_at_call 94; (refine (Tryz.bits_LeadingZeros64 10 _ (by decide) (by decide)).mono ?_); rintro e w' ⟨rfl, rfl⟩; rw [show (64 - (Lib.bitLen (10 : Int).toNat : Int)) = 60 from by decide]; exact ⟨rfl, 0, rfl⟩) | (go_at_call 94; (refine (Tryz.bits_LeadingZeros64 10 _ (by decide) (by decide)).mono ?_); rintro e w' ⟨rfl, rfl⟩; rw [show (64 - (Lib.bitLen (10 : Int).toNat : Int)) = 60 from by decide])); try go_wp2_with (first | (go_at_call 94; (refine (Tryz.bits_LeadingZeros64 10 _ (by decide) (by decide)).mono ?_); rintro e w' ⟨rfl, rfl⟩; rw [show (64 - (Lib.bitLen (10 : Int).toNat : Int)) = 60 from by decide]; exact ⟨rfl, 0, rfl⟩) | (go_at_call 94; (refine (Tryz.bits_LeadingZeros64 10 _ (by decide) (by decide)).mono ?_); rintro e w' ⟨rfl, rfl⟩; rw [show (64 - (Lib.bitLen (10 : Int).toNat : Int)) = 60 from by decide])))
      (try simp only [Act.put, List.setIfInBounds_toArray, List.set_cons_zero, List.set_cons_succ])
      rw [u64_and32 11529215046068469760 (by decide) (by decide), show (11529215046068469760 : Int) % 4294967296 = 0 from by decide]
      obtain ⟨b1, b2, b3⟩ := B1.out
      rw [wraps_u64' (a0 * 1152921504606846976) (by omega) (by omega), u64_or60 a0 (a1 / 16) b1.1 (by omega) (by omega) (by omega)]
      obtain ⟨U, hU⟩ : ∃ U, U = a0 * 1152921504606846976 + a1 / 16 := ⟨_, rfl⟩
      rw [← hU, dv_q1 U (by omega) (by omega)]
      obtain ⟨q, hq⟩ : ∃ q, q = U / 2684354560 := ⟨_, rfl⟩
      rw [← hq, dv_r1 U q (by omega) (by omega) hq]
      obtain ⟨R, hR⟩ : ∃ R, R = U % 2684354560 := ⟨_, rfl⟩
      rw [← hR]
      have e1 : IntKind.u64.wrap (a1 * 1152921504606846976) / 4294967296 = a1 % 16 * 268435456 := by rw [wrap_u64]; omega
      have e0 : bits .and .u64 (IntKind.u64.wrap (a1 * 1152921504606846976)) 4294967295 = 0 := by
        rw [u64_and32 _ (by rw [wrap_u64]; omega) (by rw [wrap_u64]; omega), wrap_u64]; omega
      rw [e0, e1]
      obtain ⟨u1, hu1⟩ : ∃ u1, u1 = a1 % 16 * 268435456 := ⟨_, rfl⟩
      rw [← hu1]
      have c2 : decide (4294967296 ≤ q) = false := decide_eq_false (by omega)
      have c3 : decide (IntKind.u64.wrap (IntKind.u64.wrap (4294967296 * R) + u1) < 0) = false := decide_eq_false (by simp only [wrap_u64]; omega)
      have HU := aK_ hU
      have HQ := aK_ hq
      have HR := aK_ hR
      have HU1 := aK_ hu1
      clear hU hq hR hu1 e0 e1 b1 b2 b3
      go_loopg [15, 16] 0 (fun k v15 v16 wr => v15 = .int .u64 q ∧ v16 = .int .u64 R ∧ wr = w')
      case atStart => exact ⟨rfl, rfl, rfl⟩
      case round =>
        obtain ⟨rfl, rfl, rfl⟩ := hrel
        go_wp2
        repeat (go_quiet (fail); try go_wp2)
        have HU' := HU.out
        have HQ' := HQ.out
        have HR' := HR.out
        have HU1' := HU1.out
        obtain ⟨b1, b2, b3⟩ := B1.out
        rw [dv_un21 U q u1 0 (by omega) (by omega) HQ' (by omega) (by omega)]
        obtain ⟨v, hv⟩ : ∃ v, v = U % 2684354560 * 4294967296 + u1 := ⟨_, rfl⟩
        rw [← hv, dv_q0 v (by omega) (by omega)]
        obtain ⟨p, hp⟩ : ∃ p, p = v / 2684354560 := ⟨_, rfl⟩
        rw [← hp, dv_r1 v p (by omega) (by omega) hp]
        obtain ⟨R2, hR2⟩ : ∃ R2, R2 = v % 2684354560 := ⟨_, rfl⟩
        rw [← hR2]
        clear c2 c3
        have c2 : decide (4294967296 ≤ p) = false := decide_eq_false (by omega)
        have c3 : decide (IntKind.u64.wrap (IntKind.u64.wrap (4294967296 * R2)) < 0) = false := decide_eq_false (by simp only [wrap_u64]; omega)
        have c4 : decide (IntKind.u64.wrap (IntKind.u64.wrap (4294967296 * R2) + 0) < 0) = false := decide_eq_false (by simp only [wrap_u64]; omega)
        have HV := aK_ hv
        have HP := aK_ hp
        have HR2 := aK_ hR2
        clear hv hp hR2 HU' HQ' HR' HU1' b1 b2 b3
        go_loopg [18, 16] 0 (fun k v18 v16 w1 => v18 = .int .u64 p ∧ v16 = .int .u64 R2 ∧ w1 = wr)
        case atStart => exact ⟨rfl, rfl, rfl⟩
        case round =>
          obtain ⟨rfl, rfl, rfl⟩ := hrel
          go_wp2
          repeat (go_quiet (fail); try go_wp2)
          obtain ⟨b1, b2, b3⟩ := B1.out
          have hend := dv_end a0 a1 U q v p b1.1 b1.2 b2 b3 HU.out HQ.out (by rw [← HU1.out]; exact HV.out) HP.out
          have e1 : IntKind.u64.wrap (IntKind.u64.wrap (q * 4294967296) + p) = r1 := hend.1.trans E1.out
          have e2 : IntKind.u64.wrap (IntKind.u64.wrap (IntKind.u64.wrap (v * 4294967296)) - IntKind.u64.wrap (p * 11529215046068469760)) / 1152921504606846976 = r2 := by
            have h_ := hend.2
            rw [Int.add_zero] at h_
            exact h_.trans E2.out
          rw [e1, e2]
          refine bodyPost_ret (results_list (rs := [.tmp 6, .tmp 7]) rfl (by simp) (.tmp (.tmp .nil))) rfl ?_
          exact ⟨rfl, by repeat (first | exact zAe.refl _ | apply zAe.step)⟩
  · cases h
end Go.Proofs.YtkikekiokclmdaaGreatDoor.S
