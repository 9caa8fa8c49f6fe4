/- What the proof needs, part 14 of 21. TreeKeeps: for every raw plan and number Part leaves its arguments as they were, and what it answers is new memory. -/
import Derived.Test.YthbnigjckjkmnaaDoorBTreeKeeps5
import Derived.Test.YthbnigjckjkmnaaDoorBTreeKeeps8
import Derived.Test.YthbnigjckjkmnaaDoorBTreeKeeps11
import Derived.Test.YthbnigjckjkmnaaDoorBTreeKeeps13
import Derived.Test.YthbnigjckjkmnaaDoorBTreeKeeps9
import Derived.Test.YthbnigjckjkmnaaDoorBTreeKeeps6
import Derived.Test.YthbnigjckjkmnaaDoorBTreeKeeps10
set_option linter.unusedVariables false
set_option linter.unusedSimpArgs false
namespace Go.Proofs.YthbnigjckjkmnaaDoor.S
open Go.RowKit Go.Proofs.YthbnigjckjkmnaaDoorW.PrintWords Go.Proofs.YthbnigjckjkmnaaDoorW.PrintLast Go.Proofs.YthbnigjckjkmnaaDoorW.PrintMore
attribute [local go_sem] max2_int min2_int max_two min_two max_three min_three max_four min_four
def scan_Word.f (a0:ByteArray):Option (Bool):=if a0.toList=([]:List UInt8) then (some false) else ((scan_run_letter.f a0).bind fun t108=>(if t108=(a0.size:Int) then (if 1+a0.size≤9223372036854775807 then (if ((⟨#[32]⟩:ByteArray) ++ a0).size+1≤9223372036854775807 then ((strings_Contains.f (⟨#[32,112,108,97,110,32,114,111,117,110,100,32,98,121,32,98,108,111,99,107,115,32,109,105,110,32,109,97,120,32,111,118,101,114,32,117,112,116,111,32,103,114,97,100,117,97,116,101,100,32,118,111,108,117,109,101,32,111,102,102,32,105,102,32,102,108,111,111,114,32,99,101,105,108,32,122,101,114,111,32,104,97,108,102,32,101,118,101,110,32]⟩:ByteArray) (((⟨#[32]⟩:ByteArray) ++ a0) ++ (⟨#[32]⟩:ByteArray))).bind fun t109=>(some t109)) else (none)) else (none)) else (some false)))
set_option maxHeartbeats 8000000 in
set_option maxRecDepth 100000 in
theorem scan_Word.calls (a0:ByteArray) (r:Bool) (w:World) (hG:GW w) (h:scan_Word.f a0=some r) :
  Calls Tryd.prog 79 #[.string a0] w fun e w'=>e = .returned (.bool r)∧Drawn0 w w':=by
 have H:(if a0.toList=([]:List UInt8) then (some false) else ((scan_run_letter.f a0).bind fun t108=>(if t108=(a0.size:Int) then (if 1+a0.size≤9223372036854775807 then (if ((⟨#[32]⟩:ByteArray) ++ a0).size+1≤9223372036854775807 then ((strings_Contains.f (⟨#[32,112,108,97,110,32,114,111,117,110,100,32,98,121,32,98,108,111,99,107,115,32,109,105,110,32,109,97,120,32,111,118,101,114,32,117,112,116,111,32,103,114,97,100,117,97,116,101,100,32,118,111,108,117,109,101,32,111,102,102,32,105,102,32,102,108,111,111,114,32,99,101,105,108,32,122,101,114,111,32,104,97,108,102,32,101,118,101,110,32]⟩:ByteArray) (((⟨#[32]⟩:ByteArray) ++ a0) ++ (⟨#[32]⟩:ByteArray))).bind fun t109=>(some t109)) else (none)) else (none)) else (some false))))=some r:=h
 clear h
 by_cases c2:a0.toList=([]:List UInt8)
 ·rw [if_pos c2] at H
  have c2b0:(a0.toList == ([]:List UInt8))=true:=beq_iff_eq.mpr c2
  have c2b1:(a0.toList != ([]:List UInt8))=false:=bne_eq_false_iff_eq.mpr c2
  clear c2
  obtain rfl:=Option.some.inj H
  go_enter Tryd.func79,Tryd.ntmps79
  go_wp2
  go_ret
  exact ⟨by first|rfl|(simp;done)|(simp [*];done),by repeat (first|exact Drawn0.refl _|apply Drawn0.step)⟩
 rw [if_neg c2] at H
 have c2b0:(a0.toList == ([]:List UInt8))=false:=beq_eq_false_iff_ne.mpr c2
 have c2b1:(a0.toList != ([]:List UInt8))=true:=bne_iff_ne.mpr c2
 replace H:=Option.bind_eq_some_iff.mp H
 obtain ⟨t108,A30,H⟩:=H
 replace H:(if t108=(a0.size:Int) then (if 1+a0.size≤9223372036854775807 then (if ((⟨#[32]⟩:ByteArray) ++ a0).size+1≤9223372036854775807 then ((strings_Contains.f (⟨#[32,112,108,97,110,32,114,111,117,110,100,32,98,121,32,98,108,111,99,107,115,32,109,105,110,32,109,97,120,32,111,118,101,114,32,117,112,116,111,32,103,114,97,100,117,97,116,101,100,32,118,111,108,117,109,101,32,111,102,102,32,105,102,32,102,108,111,111,114,32,99,101,105,108,32,122,101,114,111,32,104,97,108,102,32,101,118,101,110,32]⟩:ByteArray) (((⟨#[32]⟩:ByteArray) ++ a0) ++ (⟨#[32]⟩:ByteArray))).bind fun t109=>(some t109)) else (none)) else (none)) else (some false))=some r:=H
 have A3:=aK_ A30
 clear A30
 by_cases c4:t108=(a0.size:Int)
 rotate_left
 ·rw [if_neg c4] at H
  have c4b0:(t108 == (a0.size:Int))=false:=beq_eq_false_iff_ne.mpr c4
  have c4b1:(t108 != (a0.size:Int))=true:=bne_iff_ne.mpr c4
  obtain rfl:=Option.some.inj H
  go_enter Tryd.func79,Tryd.ntmps79
  go_wp2_with (first|(go_at_call 77;(with_reducible refine (scan_run_letter.calls a0 t108 _ A3.out).mono ?_);rintro e w' ⟨rfl,⟨nd,rfl⟩⟩))
  go_ret
  exact ⟨by first|rfl|(simp;done)|(simp [*];done),by repeat (first|exact Drawn0.refl _|apply Drawn0.step)⟩
 rw [if_pos c4] at H
 have c4b0:(t108 == (a0.size:Int))=true:=beq_iff_eq.mpr c4
 have c4b1:(t108 != (a0.size:Int))=false:=bne_eq_false_iff_eq.mpr c4
 clear c4
 have c5:=yes_ H
 rw [if_pos c5] at H
 have c5b0:=eq_true c5
 have c5b1:decide (1+a0.size≤9223372036854775807)=true:=decide_eq_true c5
 try have c5b2:(9223372036854775807<1+a0.size)=False:=eq_false (Nat.not_lt.2 c5)
 have c6:=yes_ H
 rw [if_pos c6] at H
 have c6s:1+a0.size+1≤9223372036854775807:=by
  have h_:=c6
  rw [ByteArray.size_append] at h_
  exact h_
 have c6b0:=eq_true c6
 have c6b1:decide (((⟨#[32]⟩:ByteArray) ++ a0).size+1≤9223372036854775807)=true:=decide_eq_true c6
 try have c6b2:(9223372036854775807<((⟨#[32]⟩:ByteArray) ++ a0).size+1)=False:=eq_false (Nat.not_lt.2 c6)
 replace H:=Option.bind_eq_some_iff.mp H
 obtain ⟨t109,A70,H⟩:=H
 replace H:(some t109)=some r:=H
 have A7:=aK_ A70
 clear A70
 obtain rfl:=Option.some.inj H
 go_enter Tryd.func79,Tryd.ntmps79
 go_wp2_with (first|(go_at_call 77;(with_reducible refine (scan_run_letter.calls a0 t108 _ A3.out).mono ?_);rintro e w' ⟨rfl,⟨nd,rfl⟩⟩)|(go_at_call 87;(refine (strings_Contains.calls (⟨#[32,112,108,97,110,32,114,111,117,110,100,32,98,121,32,98,108,111,99,107,115,32,109,105,110,32,109,97,120,32,111,118,101,114,32,117,112,116,111,32,103,114,97,100,117,97,116,101,100,32,118,111,108,117,109,101,32,111,102,102,32,105,102,32,102,108,111,111,114,32,99,101,105,108,32,122,101,114,111,32,104,97,108,102,32,101,118,101,110,32]⟩:ByteArray) (((⟨#[32]⟩:ByteArray) ++ a0) ++ (⟨#[32]⟩:ByteArray)) t109 _ ?side1 A7.out).mono ?_);(case side1=>(first|(with_reducible exact hG)|((repeat (with_reducible first|exact hG|apply GW.drewN|apply GW.drew|apply GW.alloc));done)|exact GW.below hG (aH_ HB.out)));rintro e w' ⟨rfl,⟨nd,rfl⟩⟩))
 go_ret
 exact ⟨by first|rfl|(simp;done)|(simp [*];done),by repeat (first|exact Drawn0.refl _|apply Drawn0.step)⟩
end Go.Proofs.YthbnigjckjkmnaaDoor.S

namespace Go.Proofs.YthbnigjckjkmnaaDoor.S
open Go.RowKit Go.Proofs.YthbnigjckjkmnaaDoorW.PrintWords Go.Proofs.YthbnigjckjkmnaaDoorW.PrintLast Go.Proofs.YthbnigjckjkmnaaDoorW.PrintMore
attribute [local go_sem] max2_int min2_int max_two min_two max_three min_three max_four min_four
def scan_Name.f (a0:ByteArray):Option (Bool):=if a0.toList=([]:List UInt8) then (some false) else (if (a0.size:Int)≤32 then (if 0<(a0.size:Int) then ((scan_letter.f (bt a0 0)).bind fun t110=>(if t110=true then ((scan_run_inner.f a0).bind fun t111=>(if t111=(a0.size:Int) then ((scan_Word.f a0).bind fun t112=>(some (!t112))) else (some false))) else (some false))) else (none)) else (some false))
set_option maxHeartbeats 8000000 in
set_option maxRecDepth 100000 in
theorem scan_Name.calls (a0:ByteArray) (r:Bool) (w:World) (hG:GW w) (h:scan_Name.f a0=some r) :
  Calls Tryd.prog 55 #[.string a0] w fun e w'=>e = .returned (.bool r)∧Drawn0 w w':=by
 have H:(if a0.toList=([]:List UInt8) then (some false) else (if (a0.size:Int)≤32 then (if 0<(a0.size:Int) then ((scan_letter.f (bt a0 0)).bind fun t110=>(if t110=true then ((scan_run_inner.f a0).bind fun t111=>(if t111=(a0.size:Int) then ((scan_Word.f a0).bind fun t112=>(some (!t112))) else (some false))) else (some false))) else (none)) else (some false)))=some r:=h
 clear h
 by_cases c2:a0.toList=([]:List UInt8)
 ·rw [if_pos c2] at H
  have c2b0:(a0.toList == ([]:List UInt8))=true:=beq_iff_eq.mpr c2
  have c2b1:(a0.toList != ([]:List UInt8))=false:=bne_eq_false_iff_eq.mpr c2
  clear c2
  obtain rfl:=Option.some.inj H
  go_enter Tryd.func55,Tryd.ntmps55
  go_wp2
  go_ret
  exact ⟨by first|rfl|(simp;done)|(simp [*];done),by repeat (first|exact Drawn0.refl _|apply Drawn0.step)⟩
 rw [if_neg c2] at H
 have c2b0:(a0.toList == ([]:List UInt8))=false:=beq_eq_false_iff_ne.mpr c2
 have c2b1:(a0.toList != ([]:List UInt8))=true:=bne_iff_ne.mpr c2
 by_cases c3:(a0.size:Int)≤32
 rotate_left
 ·rw [if_neg c3] at H
  have c3b0:decide ((a0.size:Int)≤32)=false:=decide_eq_false c3
  have c3b1:decide (a0.size≤32)=false:=decide_eq_false (by omega)
  clear c3
  obtain rfl:=Option.some.inj H
  go_enter Tryd.func55,Tryd.ntmps55
  go_wp2
  go_ret
  exact ⟨by first|rfl|(simp;done)|(simp [*];done),by repeat (first|exact Drawn0.refl _|apply Drawn0.step)⟩
 rw [if_pos c3] at H
 have c3b0:decide ((a0.size:Int)≤32)=true:=decide_eq_true c3
 have c3b1:decide (a0.size≤32)=true:=decide_eq_true (by omega)
 clear c3
 have c4:=yes_ H
 rw [if_pos c4] at H
 have c4b0:decide (0<(a0.size:Int))=true:=decide_eq_true c4
 have c4b1:decide (0<a0.size)=true:=decide_eq_true (by omega)
 clear c4
 replace H:=Option.bind_eq_some_iff.mp H
 obtain ⟨t110,A60,H⟩:=H
 replace H:(if t110=true then ((scan_run_inner.f a0).bind fun t111=>(if t111=(a0.size:Int) then ((scan_Word.f a0).bind fun t112=>(some (!t112))) else (some false))) else (some false))=some r:=H
 have A6:=aK_ A60
 clear A60
 by_cases c7:t110=true
 rotate_left
 ·replace c7:=Bool.eq_false_iff.mpr c7
  subst c7
  have H1:(some false)=some r:=by rw [if_neg (show ¬ (false=true) by decide)] at H;exact H
  clear H
  have H:=H1
  clear H1
  obtain rfl:=Option.some.inj H
  have p5:0≤(0:Int):=(by omega)
  have q5:0<a0.size:=(by have:(0:Int)<(a0.size:Int):=aD_;omega)
  have hx5:∀ h:0<a0.size,((a0[0]'h).toNat:Int)=bt a0 0:=bt_at a0 0
  clear p5
  have qi5:(0<(a0.size:Int))=True:=eq_true aD_
  replace q5:=eq_true q5
  go_enter Tryd.func55,Tryd.ntmps55
  go_wp2_with (first|(go_at_call 76;(with_reducible refine (scan_letter.calls (bt a0 0) false _ A6.out).mono ?_);rintro e w' ⟨rfl,⟨nd,rfl⟩⟩))
  go_ret
  exact ⟨by first|rfl|(simp;done)|(simp [*];done),by repeat (first|exact Drawn0.refl _|apply Drawn0.step)⟩
 subst c7
 have H1:((scan_run_inner.f a0).bind fun t111=>(if t111=(a0.size:Int) then ((scan_Word.f a0).bind fun t112=>(some (!t112))) else (some false)))=some r:=by rw [if_pos rfl] at H;exact H
 clear H
 have H:=H1
 clear H1
 replace H:=Option.bind_eq_some_iff.mp H
 obtain ⟨t111,A80,H⟩:=H
 replace H:(if t111=(a0.size:Int) then ((scan_Word.f a0).bind fun t112=>(some (!t112))) else (some false))=some r:=H
 have A8:=aK_ A80
 clear A80
 by_cases c9:t111=(a0.size:Int)
 rotate_left
 ·rw [if_neg c9] at H
  have c9b0:(t111 == (a0.size:Int))=false:=beq_eq_false_iff_ne.mpr c9
  have c9b1:(t111 != (a0.size:Int))=true:=bne_iff_ne.mpr c9
  obtain rfl:=Option.some.inj H
  have p5:0≤(0:Int):=(by omega)
  have q5:0<a0.size:=(by have:(0:Int)<(a0.size:Int):=aD_;omega)
  have hx5:∀ h:0<a0.size,((a0[0]'h).toNat:Int)=bt a0 0:=bt_at a0 0
  clear p5
  have qi5:(0<(a0.size:Int))=True:=eq_true aD_
  replace q5:=eq_true q5
  go_enter Tryd.func55,Tryd.ntmps55
  go_wp2_with (first|(go_at_call 76;(with_reducible refine (scan_letter.calls (bt a0 0) true _ A6.out).mono ?_);rintro e w' ⟨rfl,⟨nd,rfl⟩⟩)|(go_at_call 77;(with_reducible refine (scan_run_inner.calls a0 t111 _ A8.out).mono ?_);rintro e w' ⟨rfl,⟨nd,rfl⟩⟩))
  go_ret
  exact ⟨by first|rfl|(simp;done)|(simp [*];done),by repeat (first|exact Drawn0.refl _|apply Drawn0.step)⟩
 rw [if_pos c9] at H
 have c9b0:(t111 == (a0.size:Int))=true:=beq_iff_eq.mpr c9
 have c9b1:(t111 != (a0.size:Int))=false:=bne_eq_false_iff_eq.mpr c9
 clear c9
 replace H:=Option.bind_eq_some_iff.mp H
 obtain ⟨t112,A100,H⟩:=H
 replace H:(some (!t112))=some r:=H
 have A10:=aK_ A100
 clear A100
 obtain rfl:=Option.some.inj H
 have p5:0≤(0:Int):=(by omega)
 have q5:0<a0.size:=(by have:(0:Int)<(a0.size:Int):=aD_;omega)
 have hx5:∀ h:0<a0.size,((a0[0]'h).toNat:Int)=bt a0 0:=bt_at a0 0
 clear p5
 have qi5:(0<(a0.size:Int))=True:=eq_true aD_
 replace q5:=eq_true q5
 go_enter Tryd.func55,Tryd.ntmps55
 go_wp2_with (first|(go_at_call 76;(with_reducible refine (scan_letter.calls (bt a0 0) true _ A6.out).mono ?_);rintro e w' ⟨rfl,⟨nd,rfl⟩⟩)|(go_at_call 77;(with_reducible refine (scan_run_inner.calls a0 t111 _ A8.out).mono ?_);rintro e w' ⟨rfl,⟨nd,rfl⟩⟩)|(go_at_call 79;(with_reducible refine (scan_Word.calls a0 t112 _ ?side1 A10.out).mono ?_);(case side1=>(first|(with_reducible exact hG)|((repeat (with_reducible first|exact hG|apply GW.drewN|apply GW.drew|apply GW.alloc));done)|exact GW.below hG (aH_ HB.out)));rintro e w' ⟨rfl,⟨nd,rfl⟩⟩))
 go_ret
 exact ⟨by first|rfl|(simp;done)|(simp [*];done),by repeat (first|exact Drawn0.refl _|apply Drawn0.step)⟩
end Go.Proofs.YthbnigjckjkmnaaDoor.S

namespace Go.Proofs.YthbnigjckjkmnaaDoor.S
open Go.RowKit Go.Proofs.YthbnigjckjkmnaaDoorW.PrintWords
def idxL (nm : ByteArray) : List (S47) → Int → Int
  | [], _ => -1
  | d :: rest, n => if (d.f0.toList == nm.toList) = true then n else idxL nm rest (n + 1)
theorem idxL_drop (nm : ByteArray) (xs : List (S47)) (i : Nat) (h : i < xs.length) : idxL nm (xs.drop i) i = if ((rd_T47 xs i).f0.toList == nm.toList) = true then (i : Int) else idxL nm (xs.drop (i + 1)) ((i + 1 : Nat) : Int) := by
  rw [List.drop_eq_getElem_cons h, idxL]
  have : rd_T47 xs i = xs[i] := by simp [rd_T47, List.getD_eq_getElem?_getD, List.getElem?_eq_getElem h]
  rw [this]
  rfl
set_option maxHeartbeats 1000000 in
set_option maxRecDepth 100000 in
theorem ahead_any (a nm : ByteArray) (n : Int) (p : Addr) (w : World) (hp : w.cell? p = some (.string nm)) :
    Calls Tryd.prog 56 #[.agg #[.string a, .int .i64 n], .pointer (some p)] w fun e w' => e = .returned (.bool (a.toList == nm.toList)) ∧ Below w.heap.size w w' := by
  have g0 := fun o => zAO (zAF (Below.refl w.heap.size w) o) hp
  clear hp
  go_enter Tryd.func56, Tryd.ntmps56
  go_wp2
  go_ret
  exact ⟨rfl, zAF (Below.refl _ _) _⟩
set_option maxHeartbeats 4000000 in
set_option maxRecDepth 100000 in
theorem index_any (A0 : Option Addr) (c0 : Nat) (l0 : List (S47)) (nm : ByteArray) (p : Addr) (w : World) (hr0 : Kd.C k47 w A0 l0.length l0) (hc0 : l0.length ≤ c0) (hp : w.cell? p = some (.string nm)) :
    Calls Tryd.prog 80 #[.slice A0 l0.length c0, .func (.func 56) #[] #[.pointer (some p)]] w fun e w' => e = .returned (.int .i64 (idxL nm l0 0)) ∧ Below w.heap.size w w' := by
  have hm := hr0.2.1
  have HR := aK_ hr0
  have HC := aK_ hc0
  have HP := aK_ hp
  clear hr0 hc0 hp
  go_enter Tryd.func80, Tryd.ntmps80
  go_wp2
  go_loopg [8] l0.length (fun kq v8 w' => ∃ i : Nat, v8 = .int .i64 (i : Int) ∧ zAJ (i ≤ l0.length) ∧ zAJ (kq = l0.length - i) ∧ zAJ (idxL nm l0 0 = idxL nm (l0.drop i) i) ∧ zAJ (Below w.heap.size w w'))
  case atStart => exact ⟨0, rfl, ⟨Nat.zero_le _⟩, ⟨rfl⟩, ⟨rfl⟩, ⟨Below.refl _ _⟩⟩
  case round =>
    obtain ⟨i, rfl, HI, HK, HE, HB⟩ := hrel
    by_cases hlt : i < l0.length
    · have h0 : (0 : Int) ≤ (i : Int) := by omega
      have h1 : (i : Int) < (l0.length : Int) := by omega
      obtain ⟨ad, e1, hx0, hx1⟩ := at_T47 (Kd.C_below HR.out HB.out) (i : Int) h0 h1
      cases e1
      simp only [Int.toNat_natCast] at hx0 hx1
      have hs := idxL_drop nm l0 i hlt
      have hw : wrap64 ((i : Int) + 1) = ((i + 1 : Nat) : Int) := by unfold wrap64; omega
      cases hq : ((rd_T47 l0 i).f0.toList == nm.toList) with
      | true =>
        rw [hq, if_pos rfl] at hs
        have HS := aK_ hs
        have HQ := aK_ hq
        have HW := aK_ hw
        clear hs hq hw
        go_wp2_with (first | (go_at_call 56; refine (ahead_any _ nm _ p _ (zAO HB.out HP.out)).mono ?_; rintro e w' ⟨rfl, hb_⟩; have HB2 := aK_ hb_; clear hb_; rw [HQ.out]))
        go_ret
        exact ⟨by rw [HE.out, HS.out]; rfl, below_then HB.out HB.out.size HB2.out⟩
      | false =>
        rw [hq, if_neg (by decide)] at hs
        have HS := aK_ hs
        have HQ := aK_ hq
        have HW := aK_ hw
        clear hs hq hw
        go_wp2_with (first | (go_at_call 56; refine (ahead_any _ nm _ p _ (zAO HB.out HP.out)).mono ?_; rintro e w' ⟨rfl, hb_⟩; have HB2 := aK_ hb_; clear hb_; rw [HQ.out]))
        go_roundg (l0.length - (i + 1))
        case measure => have := HK.out; omega
        case rel => exact ⟨i + 1, by first | (rw [HW.out]; done) | (simp; done), ⟨hlt⟩, ⟨rfl⟩, ⟨by rw [HE.out, HS.out]⟩, ⟨below_then HB.out HB.out.size HB2.out⟩⟩
    · have hi : i = l0.length := by have := HI.out; omega
      subst hi
      go_wp2
      go_ret
      exact ⟨by rw [HE.out, List.drop_length]; rfl, HB.out⟩
set_option maxHeartbeats 1000000 in
set_option maxRecDepth 100000 in
theorem contains_any (A0 : Option Addr) (c0 : Nat) (l0 : List (S47)) (nm : ByteArray) (p : Addr) (w : World) (hr0 : Kd.C k47 w A0 l0.length l0) (hc0 : l0.length ≤ c0) (hp : w.cell? p = some (.string nm)) :
    Calls Tryd.prog 57 #[.slice A0 l0.length c0, .func (.func 56) #[] #[.pointer (some p)]] w fun e w' => e = .returned (.bool (decide (idxL nm l0 0 ≥ 0))) ∧ Below w.heap.size w w' := by
  have HR := aK_ hr0
  have HC := aK_ hc0
  have HP := aK_ hp
  clear hr0 hc0 hp
  go_enter Tryd.func57, Tryd.ntmps57
  go_wp2_with (first | (go_at_call 80; refine (index_any A0 c0 l0 nm p _ HR.out HC.out HP.out).mono ?_; rintro e w' ⟨rfl, hb_⟩; have HB2 := aK_ hb_; clear hb_))
  go_ret
  exact ⟨rfl, HB2.out⟩
def dimsL (pre : List (S47)) : List (S47) → Option Int
  | [] => some 0
  | d :: rest => (scan_Name.f d.f0).bind fun b => if b = true then (if idxL d.f0 pre 0 ≥ 0 then some 61 else if d.f1 < 1 ∨ d.f1 > 1000000000000 then some 50 else dimsL (pre ++ [d]) rest) else some 61
def modeE (a0_2 : Int) (e : Int) : Option Int := if e = 0 then (if a0_2 < 0 ∨ a0_2 > 4 then some 50 else some 0) else some e
def tree_head.f (k : Nat) (a0_0 : ByteArray) (l0_1 : List (S47)) (a0_2 : Int) (l0_3 : List (S33)) : Option Int :=
  (scan_Name.f a0_0).bind fun b => if b = true then (if (l0_1.length : Int) < 1 ∨ (l0_1.length : Int) > 4 then some 100 else (dimsL [] l0_1).bind (modeE a0_2)) else some 61
theorem tree_head.mono : ∀ a0 a1 a2 a3 k, LeO (tree_head.f k a0 a1 a2 a3) (tree_head.f (k + 1) a0 a1 a2 a3) := fun _ _ _ _ _ => LeO.refl _
theorem dimsL_drop (xs : List (S47)) (i : Nat) (h : i < xs.length) (z : Int → Option Int) (r : Int) (hr : (dimsL (xs.take i) (xs.drop i)).bind z = some r) :
    ∃ b, scan_Name.f (rd_T47 xs i).f0 = some b ∧ ((b = false ∧ z 61 = some r) ∨ (b = true ∧ idxL (rd_T47 xs i).f0 (xs.take i) 0 ≥ 0 ∧ z 61 = some r) ∨
      (b = true ∧ ¬ idxL (rd_T47 xs i).f0 (xs.take i) 0 ≥ 0 ∧ (rd_T47 xs i).f1 < 1 ∧ z 50 = some r) ∨ (b = true ∧ ¬ idxL (rd_T47 xs i).f0 (xs.take i) 0 ≥ 0 ∧ ¬ (rd_T47 xs i).f1 < 1 ∧ (rd_T47 xs i).f1 > 1000000000000 ∧ z 50 = some r) ∨
      (b = true ∧ ¬ idxL (rd_T47 xs i).f0 (xs.take i) 0 ≥ 0 ∧ ¬ (rd_T47 xs i).f1 < 1 ∧ ¬ (rd_T47 xs i).f1 > 1000000000000 ∧ (dimsL (xs.take (i + 1)) (xs.drop (i + 1))).bind z = some r)) := by
  have e1 : rd_T47 xs i = xs[i] := by simp [rd_T47, List.getD_eq_getElem?_getD, List.getElem?_eq_getElem h]
  rw [e1]
  rw [List.drop_eq_getElem_cons h, dimsL] at hr
  obtain ⟨e, h1, h2⟩ := Option.bind_eq_some_iff.1 hr
  obtain ⟨b, h3, h4⟩ := Option.bind_eq_some_iff.1 h1
  refine ⟨b, h3, ?_⟩
  cases b with
  | false =>
    rw [if_neg (by decide)] at h4
    obtain rfl := Option.some.inj h4
    exact .inl ⟨rfl, h2⟩
  | true =>
    rw [if_pos rfl] at h4
    by_cases c1 : idxL xs[i].f0 (xs.take i) 0 ≥ 0
    · rw [if_pos c1] at h4
      obtain rfl := Option.some.inj h4
      exact .inr (.inl ⟨rfl, c1, h2⟩)
    · rw [if_neg c1] at h4
      by_cases c2 : xs[i].f1 < 1
      · rw [if_pos (.inl c2)] at h4
        obtain rfl := Option.some.inj h4
        exact .inr (.inr (.inl ⟨rfl, c1, c2, h2⟩))
      · by_cases c3 : xs[i].f1 > 1000000000000
        · rw [if_pos (.inr c3)] at h4
          obtain rfl := Option.some.inj h4
          exact .inr (.inr (.inr (.inl ⟨rfl, c1, c2, c3, h2⟩)))
        · rw [if_neg (by omega)] at h4
          refine .inr (.inr (.inr (.inr ⟨rfl, c1, c2, c3, ?_⟩)))
          rw [List.take_succ_eq_append_getElem h]
          exact Option.bind_eq_some_iff.2 ⟨e, h4, h2⟩
set_option maxHeartbeats 8000000 in
set_option maxRecDepth 100000 in
theorem tree_head.calls (k : Nat) (a0_0 : ByteArray) (A0_1 : Option Addr) (c0_1 : Nat) (l0_1 : List (S47)) (a0_2 : Int) (A0_3 : Option Addr) (c0_3 : Nat) (l0_3 : List (S33)) (r : Int) (w : World) (hG : GW w) (hr0_1 : Kd.C k47 w A0_1 l0_1.length l0_1) (hc0_1 : l0_1.length ≤ c0_1) (hr0_3 : Kd.C k33 w A0_3 l0_3.length l0_3) (hc0_3 : l0_3.length ≤ c0_3) (h : tree_head.f k a0_0 l0_1 a0_2 l0_3 = some r) :
    Calls Tryd.prog 37 #[.agg #[.string a0_0, .slice A0_1 l0_1.length c0_1, .int .i64 a0_2, .slice A0_3 l0_3.length c0_3]] w fun e w' => e = .returned (.int .i64 r) ∧ Below w.heap.size w w' := by
  have hm := hr0_1.2.1
  have HR := aK_ hr0_1
  have HC := aK_ hc0_1
  have HG := aK_ hG
  clear hr0_1 hc0_1 hr0_3 hc0_3 hG
  obtain ⟨b, hb, h⟩ := Option.bind_eq_some_iff.1 h
  have HNM := aK_ hb
  clear hb
  cases b with
  | false =>
    rw [if_neg (by decide)] at h
    obtain rfl := Option.some.inj h
    clear h
    go_enter Tryd.func37, Tryd.ntmps37
    go_wp2_with (first | (go_at_call 55; refine (scan_Name.calls _ _ _ (HG.out.alloc) HNM.out).mono ?_; rintro e w' ⟨rfl, nd, rfl⟩))
    go_ret
    exact ⟨rfl, zAK (zAF (Below.refl _ _) _) _⟩
  | true =>
    rw [if_pos rfl] at h
    by_cases h1 : (l0_1.length : Int) < 1
    · rw [if_pos (.inl h1)] at h
      obtain rfl := Option.some.inj h
      clear h
      go_enter Tryd.func37, Tryd.ntmps37
      go_wp2_with (first | (go_at_call 55; refine (scan_Name.calls _ _ _ (HG.out.alloc) HNM.out).mono ?_; rintro e w' ⟨rfl, nd, rfl⟩))
      go_ret
      exact ⟨rfl, zAK (zAF (Below.refl _ _) _) _⟩
    · by_cases h2 : 4 < (l0_1.length : Int)
      · rw [if_pos (.inr h2)] at h
        obtain rfl := Option.some.inj h
        clear h
        go_enter Tryd.func37, Tryd.ntmps37
        go_wp2_with (first | (go_at_call 55; refine (scan_Name.calls _ _ _ (HG.out.alloc) HNM.out).mono ?_; rintro e w' ⟨rfl, nd, rfl⟩))
        all_goals first | (exfalso; omega) | skip
        go_ret
        exact ⟨rfl, zAK (zAF (Below.refl _ _) _) _⟩
      · rw [if_neg (by omega)] at h
        have H := aK_ h
        clear h
        go_enter Tryd.func37, Tryd.ntmps37
        go_wp2_with (first | (go_at_call 55; refine (scan_Name.calls _ _ _ (HG.out.alloc) HNM.out).mono ?_; rintro e w' ⟨rfl, nd, rfl⟩))
        all_goals first | (exfalso; omega) | skip
        have hbk0 : (w.alloc (.cells #[.string a0_0, .slice A0_1 l0_1.length c0_1, .int .i64 a0_2, .slice A0_3 l0_3.length c0_3] 25)).heap[w.heap.size]? = some (.cells #[.string a0_0, .slice A0_1 l0_1.length c0_1, .int .i64 a0_2, .slice A0_3 l0_3.length c0_3] 25 (0, 0)) := heap_alloc_new w _
        have HBK0 := aK_ hbk0
        clear hbk0
        go_loopg [23] l0_1.length (fun kq v23 w' => ∃ i : Nat, v23 = .int .i64 (i : Int) ∧ zAJ (i ≤ l0_1.length) ∧ zAJ (kq = l0_1.length - i) ∧ zAJ ((dimsL (l0_1.take i) (l0_1.drop i)).bind (modeE a0_2) = some r) ∧ zAJ (w'.heap[w.heap.size]? = some (.cells #[.string a0_0, .slice A0_1 l0_1.length c0_1, .int .i64 a0_2, .slice A0_3 l0_3.length c0_3] 25 (0, 0))) ∧ zAJ (Below w.heap.size w w'))
        case atStart => exact ⟨0, rfl, ⟨Nat.zero_le _⟩, ⟨rfl⟩, ⟨by simpa using H.out⟩, ⟨blk_drewN HBK0.out nd⟩, ⟨zAK (zAF (Below.refl _ _) _) _⟩⟩
        case round =>
          clear H HBK0
          obtain ⟨i, rfl, HI, HK, HE, BK, HB⟩ := hrel
          have hc0 : wr.cell? ⟨w.heap.size, 0, none⟩ = some (.string a0_0) := (zAB BK.out 0).trans rfl
          have hc1 : wr.cell? ⟨w.heap.size, 1, none⟩ = some (.slice A0_1 l0_1.length c0_1) := (zAB BK.out 1).trans rfl
          have hc2 : wr.cell? ⟨w.heap.size, 2, none⟩ = some (.int .i64 a0_2) := (zAB BK.out 2).trans rfl
          have ha1 : ∀ o, (wr.alloc o).cell? ⟨w.heap.size, 1, none⟩ = some (.slice A0_1 l0_1.length c0_1) := fun o => zAO (zAF (Below.refl _ _) o) hc1
          by_cases hlt : i < l0_1.length
          · have h0 : (0 : Int) ≤ (i : Int) := by omega
            have h1 : (i : Int) < (l0_1.length : Int) := by omega
            obtain ⟨ad, e1, hx0, hx1⟩ := at_T47 (Kd.C_below HR.out HB.out) (i : Int) h0 h1
            simp only [Int.toNat_natCast] at hx0 hx1
            obtain ⟨b, hb, hcase⟩ := dimsL_drop l0_1 i hlt (modeE a0_2) r HE.out
            have HNB := aK_ hb
            clear hb
            have hsl : ∀ W : World, (Instr.slice 22 (.slice A0_1 l0_1.length c0_1) none (some (.int .i64 (i : Int))) none).run Tryd.prog W = .ok (.slice A0_1 i c0_1) W := by
              intro W
              have hu : Tryd.prog.underlying 22 = some (.slice (Tryd.prog.elem 22)) := by simp [Program.elem, Tryd.underlying22]
              have ha : (A0_1.map fun x => x.add 0) = A0_1 := by cases A0_1 <;> simp [Addr.add]
              obtain ⟨i0, hi, _⟩ := Option.map_eq_some_iff.1 info47
              have hel : Tryd.prog.elem 22 = 47 := by simp [Program.elem, Tryd.underlying22]
              rw [run_slice_h W 22 A0_1 l0_1.length c0_1 hu .i64 (i : Int) h0 (by have := HC.out; omega), hel]
              simp [sizeOf, typeInfo, hi, sliced, Result.andThen, ha]
            have hlen : (l0_1.take i).length = i := by rw [List.length_take]; omega
            generalize hF : (rd_T47 l0_1 (i : Int)) = F at *
            have hcon : ∀ n : Nat, Calls Tryd.prog 57 #[.slice A0_1 i c0_1, .func (.func 56) #[] #[.pointer (some ⟨wr.heap.size, 0, none⟩)]] ((wr.alloc (.cells #[.string F.f0, .int .i64 F.f1] 47)).drewN n) (fun e w' => e = .returned (.bool (decide (idxL F.f0 (l0_1.take i) 0 ≥ 0))) ∧ Below ((wr.alloc (.cells #[.string F.f0, .int .i64 F.f1] 47)).drewN n).heap.size ((wr.alloc (.cells #[.string F.f0, .int .i64 F.f1] 47)).drewN n) w') := by
              intro n
              have hC := Kd.C_take HR.out (m := i) (Nat.le_of_lt hlt)
              have q := contains_any A0_1 c0_1 (l0_1.take i) F.f0 ⟨wr.heap.size, 0, none⟩ ((wr.alloc (.cells #[.string F.f0, .int .i64 F.f1] 47)).drewN n) (Kd.C_below hC (zAK (zAF HB.out _) _)) (by rw [hlen]; have := HC.out; omega) ((zAB (blk_drewN (heap_alloc_new wr _) n) 0).trans rfl)
              rw [hlen] at q
              exact q
            have HCON := aK_ hcon
            clear hcon
            cases e1
            rcases hcase with ⟨rfl, hz⟩ | ⟨rfl, hi1, hz⟩ | ⟨rfl, hi1, hs1, hz⟩ | ⟨rfl, hi1, hs1, hs2, hz⟩ | ⟨rfl, hi1, hs1, hs2, hz⟩
            · obtain rfl : 61 = r := Option.some.inj hz
              go_wp2_with (first | (go_at_call 55; refine (scan_Name.calls _ _ _ ((HG.out.below HB.out).alloc) HNB.out).mono ?_; rintro e w' ⟨rfl, nd2, rfl⟩))
              go_ret
              exact ⟨rfl, zAK (zAF HB.out _) _⟩
            · obtain rfl : 61 = r := Option.some.inj hz
              have HD := aK_ (decide_eq_true hi1)
              clear hi1
              go_wp2_with (first | (go_at_call 55; refine (scan_Name.calls _ _ _ ((HG.out.below HB.out).alloc) HNB.out).mono ?_; rintro e w' ⟨rfl, nd2, rfl⟩) | (go_at_call 57; refine (HCON.out nd2).mono ?_; rintro e w' ⟨rfl, hb2⟩; rw [HD.out]; have HB2 := aK_ hb2; clear hb2))
              go_ret
              exact ⟨rfl, below_then (zAK (zAF HB.out _) nd2) (zAK (zAF HB.out _) nd2).size HB2.out⟩
            · obtain rfl : 50 = r := Option.some.inj hz
              have HD := aK_ (decide_eq_false hi1)
              clear hi1
              go_wp2_with (first | (go_at_call 55; refine (scan_Name.calls _ _ _ ((HG.out.below HB.out).alloc) HNB.out).mono ?_; rintro e w' ⟨rfl, nd2, rfl⟩) | (go_at_call 57; refine (HCON.out nd2).mono ?_; rintro e w2 ⟨rfl, hb2⟩; rw [HD.out]; have hd1 : w2.cell? ⟨wr.heap.size, 1, none⟩ = some (.int .i64 F.f1) := zAO hb2 ((zAB (blk_drewN (heap_alloc_new wr _) nd2) 1).trans rfl); have HB2 := aK_ hb2; clear hb2))
              all_goals first | (exfalso; omega) | skip
              go_ret
              exact ⟨rfl, below_then (zAK (zAF HB.out _) nd2) (zAK (zAF HB.out _) nd2).size HB2.out⟩
            · obtain rfl : 50 = r := Option.some.inj hz
              have HD := aK_ (decide_eq_false hi1)
              clear hi1
              go_wp2_with (first | (go_at_call 55; refine (scan_Name.calls _ _ _ ((HG.out.below HB.out).alloc) HNB.out).mono ?_; rintro e w' ⟨rfl, nd2, rfl⟩) | (go_at_call 57; refine (HCON.out nd2).mono ?_; rintro e w2 ⟨rfl, hb2⟩; rw [HD.out]; have hd1 : w2.cell? ⟨wr.heap.size, 1, none⟩ = some (.int .i64 F.f1) := zAO hb2 ((zAB (blk_drewN (heap_alloc_new wr _) nd2) 1).trans rfl); have HB2 := aK_ hb2; clear hb2))
              all_goals first | (exfalso; omega) | skip
              go_ret
              exact ⟨rfl, below_then (zAK (zAF HB.out _) nd2) (zAK (zAF HB.out _) nd2).size HB2.out⟩
            · have HD := aK_ (decide_eq_false hi1)
              have HZ := aK_ hz
              clear hi1 hz
              go_wp2_with (first | (go_at_call 55; refine (scan_Name.calls _ _ _ ((HG.out.below HB.out).alloc) HNB.out).mono ?_; rintro e w' ⟨rfl, nd2, rfl⟩) | (go_at_call 57; refine (HCON.out nd2).mono ?_; rintro e w2 ⟨rfl, hb2⟩; rw [HD.out]; have hd1 : w2.cell? ⟨wr.heap.size, 1, none⟩ = some (.int .i64 F.f1) := zAO hb2 ((zAB (blk_drewN (heap_alloc_new wr _) nd2) 1).trans rfl); have HB2 := aK_ hb2; clear hb2))
              all_goals first | (exfalso; omega) | skip
              go_roundg (l0_1.length - (i + 1))
              case measure => have := HK.out; omega
              case rel => exact ⟨i + 1, by first | (simp; done) | (congr 1; unfold wrap64; omega), ⟨hlt⟩, ⟨rfl⟩, ⟨HZ.out⟩, ⟨zAM (blk_drewN (blk_alloc BK.out _) _) HB2.out⟩, ⟨below_then (zAK (zAF HB.out _) nd2) (zAK (zAF HB.out _) nd2).size HB2.out⟩⟩
          · have hi : i = l0_1.length := by have := HI.out; omega
            subst hi
            have hz := HE.out
            rw [List.drop_length] at hz
            have hz' : modeE a0_2 0 = some r := hz
            unfold modeE at hz'
            rw [if_pos rfl] at hz'
            by_cases m1 : a0_2 < 0
            · rw [if_pos (.inl m1)] at hz'
              obtain rfl : 50 = r := Option.some.inj hz'
              clear hz hz'
              go_wp2
              go_ret
              exact ⟨rfl, HB.out⟩
            · by_cases m2 : 4 < a0_2
              · rw [if_pos (.inr m2)] at hz'
                obtain rfl : 50 = r := Option.some.inj hz'
                clear hz hz'
                go_wp2
                all_goals first | (exfalso; omega) | skip
                go_ret
                exact ⟨rfl, HB.out⟩
              · rw [if_neg (by omega)] at hz'
                obtain rfl : 0 = r := Option.some.inj hz'
                clear hz hz'
                go_wp2
                all_goals first | (exfalso; omega) | skip
                go_ret
                exact ⟨rfl, HB.out⟩
end Go.Proofs.YthbnigjckjkmnaaDoor.S

namespace Go.Proofs.YthbnigjckjkmnaaDoor.S
open Go.RowKit Go.Proofs.YthbnigjckjkmnaaDoorW.PrintWords Go.Proofs.YthbnigjckjkmnaaDoorW.PrintLast Go.Proofs.YthbnigjckjkmnaaDoorW.PrintMore
attribute [local go_sem] max2_int min2_int max_two min_two max_three min_three max_four min_four
def tree_Check.l0:Nat→Int→List (S33)→Int→Int→ByteArray→List (S47)→Int→List (S33)→Option (Int × Int)
 |0,_,_,_,_,_,_,_,_=>none
 |k+1,x5,x19,x20,x21,x118000,x118001,x118002,x118003=>if x21<x20 then (if 0≤x21 then (if x21<(x19.length:Int) then ((tree_node.f k ((zAD x19 x21).f0) ((zAD x19 x21).f1) ((zAD x19 x21).f2) ((zAD x19 x21).f3) ((zAD x19 x21).f4) ((zAD x19 x21).f5) (x118001.length:Int) x5).bind fun t121=>(if t121=0 then ((tree_takes.f ((zAD x19 x21).f0) ((zAD x19 x21).f1) ((zAD x19 x21).f2) ((zAD x19 x21).f3) ((zAD x19 x21).f4) ((zAD x19 x21).f5)).bind fun t122=>(tree_Check.l0 k (wrap64 (x5+(wrap64 (1 - t122)))) x19 x20 (wrap64 (x21+1)) x118000 x118001 x118002 x118003)) else (some (x21,t121)))) else (none)) else (none)) else (if x5=1 then (some (0,0)) else (some ((x118003.length:Int),50)))
def tree_Check.f (k:Nat) (a0_0:ByteArray) (l0_1:List (S47)) (a0_2:Int) (l0_3:List (S33)):Option (Int × Int):=(tree_head.f k a0_0 l0_1 a0_2 l0_3).bind fun t118=>(if t118=0 then (if (l0_3.length:Int) > 1024 then (some (1024,2)) else (tree_Check.l0 k 0 l0_3 (l0_3.length:Int) 0 a0_0 l0_1 a0_2 l0_3)) else (some ((-1),t118)))
theorem tree_Check.mono_l:∀ k,(∀ y0 y1 y2 y3 y4 y5 y6 y7,LeO (tree_Check.l0 k y0 y1 y2 y3 y4 y5 y6 y7) (tree_Check.l0 (k+1) y0 y1 y2 y3 y4 y5 y6 y7))
 |0=>fun _ _ _ _ _ _ _ _ r h=>by simp [tree_Check.l0] at h
 |k+1=>by
  have ih0:=tree_Check.mono_l k
  ·intro y0 y1 y2 y3 y4 y5 y6 y7
   unfold tree_Check.l0
   repeat' first
   |(with_reducible exact ih0 _ _ _ _ _ _ _ _)
   |(with_reducible exact tree_head.mono _ _ _ _ _)
   |(with_reducible exact tree_node.mono _ _ _ _ _ _ _ _ _)
   |(with_reducible exact LeO.refl _)
   |(with_reducible exact LeO.none _)
   |(with_reducible refine LeO.ite ?_ ?_)
   |(with_reducible refine LeO.bind ?_ (fun _=>?_))
   |exact ih0 _ _ _ _ _ _ _ _
   |exact tree_head.mono _ _ _ _ _
   |exact tree_node.mono _ _ _ _ _ _ _ _ _
   |exact LeO.none _
   |refine LeO.ite ?_ ?_
   |refine LeO.bind ?_ (fun _=>?_)
theorem tree_Check.mono:∀ a0 a1 a2 a3 k,LeO (tree_Check.f k a0 a1 a2 a3) (tree_Check.f (k+1) a0 a1 a2 a3):=by
 intro a0 a1 a2 a3 k
 have ih0:=tree_Check.mono_l k
 unfold tree_Check.f
 repeat' first
   |(with_reducible exact ih0 _ _ _ _ _ _ _ _)
   |(with_reducible exact tree_head.mono _ _ _ _ _)
   |(with_reducible exact tree_node.mono _ _ _ _ _ _ _ _ _)
   |(with_reducible exact LeO.refl _)
   |(with_reducible exact LeO.none _)
   |(with_reducible refine LeO.ite ?_ ?_)
   |(with_reducible refine LeO.bind ?_ (fun _=>?_))
   |exact ih0 _ _ _ _ _ _ _ _
   |exact tree_head.mono _ _ _ _ _
   |exact tree_node.mono _ _ _ _ _ _ _ _ _
   |exact LeO.none _
   |refine LeO.ite ?_ ?_
   |refine LeO.bind ?_ (fun _=>?_)
set_option maxHeartbeats 8000000 in
set_option maxRecDepth 100000 in
theorem tree_Check.calls (k:Nat) (a0_0:ByteArray) (A0_1:Option Addr) (c0_1:Nat) (l0_1:List (S47)) (a0_2:Int) (A0_3:Option Addr) (c0_3:Nat) (l0_3:List (S33)) (r1:Int) (r2:Int) (w:World) (hG:GW w) (hr0_1:Kd.C k47 w A0_1 l0_1.length l0_1) (hc0_1:l0_1.length≤c0_1) (hr0_3:Kd.C k33 w A0_3 l0_3.length l0_3) (hc0_3:l0_3.length≤c0_3) (h:tree_Check.f k a0_0 l0_1 a0_2 l0_3=some (r1,r2)) :
  Calls Tryd.prog 16 #[.agg #[.string a0_0,.slice A0_1 l0_1.length c0_1,.int .i64 a0_2,.slice A0_3 l0_3.length c0_3]] w fun e w'=>e = .returned (.tuple #[.int .i64 r1,.int .i64 r2])∧Below w.heap.size w w':=by
 have hu25:=Tryd.underlying25
 have hu33:=Tryd.underlying33
 have HR0_1:=aK_ hr0_1
 have HC0_1:=aK_ hc0_1
 clear hr0_1 hc0_1
 have HR0_3:=aK_ hr0_3
 have HC0_3:=aK_ hc0_3
 clear hr0_3 hc0_3
 have HB:=aK_ (Below.refl w.heap.size w)
 have H:((tree_head.f k a0_0 l0_1 a0_2 l0_3).bind fun t118=>(if t118=0 then (if (l0_3.length:Int) > 1024 then (some (1024,2)) else (tree_Check.l0 k 0 l0_3 (l0_3.length:Int) 0 a0_0 l0_1 a0_2 l0_3)) else (some ((-1),t118))))=some (r1,r2):=h
 clear h
 replace H:=Option.bind_eq_some_iff.mp H
 obtain ⟨t118,A20,H⟩:=H
 replace H:(if t118=0 then (if (l0_3.length:Int) > 1024 then (some (1024,2)) else (tree_Check.l0 k 0 l0_3 (l0_3.length:Int) 0 a0_0 l0_1 a0_2 l0_3)) else (some ((-1),t118)))=some (r1,r2):=H
 have A2:=aK_ A20
 clear A20
 by_cases c3:t118=0
 rotate_left
 ·rw [if_neg c3] at H
  have c3b0:(t118 == 0)=false:=beq_eq_false_iff_ne.mpr c3
  have c3b1:(t118 != 0)=true:=bne_iff_ne.mpr c3
  simp only [Option.some.injEq,Prod.mk.injEq] at H
  obtain ⟨rfl,rfl⟩:=H
  go_enter Tryd.func16,Tryd.ntmps16
  go_wp2_with (first|((with_reducible refine zAX (N:=1) rfl ?_);refine zAW ?hg (N:=1) ?hd (cs:=#[.string a0_0,.slice A0_1 l0_1.length c0_1,.int .i64 a0_2,.slice A0_3 l0_3.length c0_3]) (t:=25) ?hr ?_;(case hd=>rfl);(case hg=>rfl);(case hr=>first|(go_simp;done)|(go_simp;rfl));intro gb117 hg w33 hbox hb;have n0_:=aK_ (zAG (aH_ HB.out) hb);have n1_:=aK_ (hbox);have n2_:=aK_ ((by rw [hg];exact (zAE (aH_ HB.out)):w.heap.size≤gb117));have n3_:=aK_ ((by rw [hg];exact (zAE (aH_ HB.out)):w.heap.size≤gb117));clear HB;have HB:=n0_;have BK117:=n1_;have GW117:=n2_;have GE117:=n3_;clear n0_ n1_ n2_ n3_;clear hb hbox hg;have hcz34_0:w33.cell? ⟨gb117,0,none⟩=some (.string a0_0):=(zAB BK117.out 0).trans rfl;have hcz34_1:w33.cell? ⟨gb117,1,none⟩=some (.slice A0_1 l0_1.length c0_1):=(zAB BK117.out 1).trans rfl;have hcz34_2:w33.cell? ⟨gb117,2,none⟩=some (.int .i64 a0_2):=(zAB BK117.out 2).trans rfl;have hcz34_3:w33.cell? ⟨gb117,3,none⟩=some (.slice A0_3 l0_3.length c0_3):=(zAB BK117.out 3).trans rfl;have hfz34_0:=zAA BK117.out 0;have hfz34_1:=zAA BK117.out 1;have hfz34_2:=zAA BK117.out 2;have hfz34_3:=zAA BK117.out 3)|((with_reducible refine zAd (f:=37) rfl ?_);refine goesL_ (some 10) rfl rfl Tryd.func37 (by kernel_rfl) rfl #[.agg #[.string a0_0,.slice A0_1 l0_1.length c0_1,.int .i64 a0_2,.slice A0_3 l0_3.length c0_3]] rfl aM_ ?_;(with_reducible refine (tree_head.calls k a0_0 _ _ l0_1 a0_2 _ _ l0_3 t118 _ ?side1 ?side2 ?side3 ?side4 ?side5 A2.out).mono ?_);(case side1=>(first|(with_reducible exact hG)|((repeat (with_reducible first|exact hG|apply GW.drewN|apply GW.drew|apply GW.alloc));done)|exact GW.below hG (aI_ HB.out GE117.out)));(case side2=>repeat (first|exact (Kd.C_below HR0_1.out HB.out)|(with_reducible refine Kd.C_alloc ?_ _)|(with_reducible refine Kd.C_drewN ?_ _)|(with_reducible refine Kd.C_drew ?_)));(case side3=>exact HC0_1.out);(case side4=>repeat (first|exact (Kd.C_below HR0_3.out HB.out)|(with_reducible refine Kd.C_alloc ?_ _)|(with_reducible refine Kd.C_drewN ?_ _)|(with_reducible refine Kd.C_drew ?_)));(case side5=>exact HC0_3.out);rintro e w35 ⟨rfl,hb⟩;refine ⟨_,rfl,?_⟩;have n0_:=aK_ (zAM (g:=gb117) (o:=.cells #[.string a0_0,.slice A0_1 l0_1.length c0_1,.int .i64 a0_2,.slice A0_3 l0_3.length c0_3] 25 (0,0)) (aB_ BK117.out) hb);have n1_:=aK_ (zAG (aI_ HB.out GE117.out) hb);clear BK117;clear HB;have BK117:=n0_;have HB:=n1_;clear n0_ n1_;(try clear hb);(try clear hb2);(try clear hk);(try clear hi)))
  go_ret2
  exact ⟨by first|rfl|(simp [zAQ,zAR] <;> rfl)|(simp [*,zAQ,zAR] <;> rfl),aI_ HB.out GE117.out⟩
 rw [if_pos c3] at H
 have c3b0:(t118 == 0)=true:=beq_iff_eq.mpr c3
 have c3b1:(t118 != 0)=false:=bne_eq_false_iff_eq.mpr c3
 clear c3
 by_cases c4:(l0_3.length:Int) > 1024
 ·rw [if_pos c4] at H
  have c4b0:decide (1024<(l0_3.length:Int))=true:=decide_eq_true c4
  have c4b1:decide (1024<l0_3.length)=true:=decide_eq_true (by omega)
  clear c4
  simp only [Option.some.injEq,Prod.mk.injEq] at H
  obtain ⟨rfl,rfl⟩:=H
  go_enter Tryd.func16,Tryd.ntmps16
  go_wp2_with (first|((with_reducible refine zAX (N:=1) rfl ?_);refine zAW ?hg (N:=1) ?hd (cs:=#[.string a0_0,.slice A0_1 l0_1.length c0_1,.int .i64 a0_2,.slice A0_3 l0_3.length c0_3]) (t:=25) ?hr ?_;(case hd=>rfl);(case hg=>rfl);(case hr=>first|(go_simp;done)|(go_simp;rfl));intro gb117 hg w5 hbox hb;have n0_:=aK_ (zAG (aH_ HB.out) hb);have n1_:=aK_ (hbox);have n2_:=aK_ ((by rw [hg];exact (zAE (aH_ HB.out)):w.heap.size≤gb117));have n3_:=aK_ ((by rw [hg];exact (zAE (aH_ HB.out)):w.heap.size≤gb117));clear HB;have HB:=n0_;have BK117:=n1_;have GW117:=n2_;have GE117:=n3_;clear n0_ n1_ n2_ n3_;clear hb hbox hg;have hcz6_0:w5.cell? ⟨gb117,0,none⟩=some (.string a0_0):=(zAB BK117.out 0).trans rfl;have hcz6_1:w5.cell? ⟨gb117,1,none⟩=some (.slice A0_1 l0_1.length c0_1):=(zAB BK117.out 1).trans rfl;have hcz6_2:w5.cell? ⟨gb117,2,none⟩=some (.int .i64 a0_2):=(zAB BK117.out 2).trans rfl;have hcz6_3:w5.cell? ⟨gb117,3,none⟩=some (.slice A0_3 l0_3.length c0_3):=(zAB BK117.out 3).trans rfl;have hfz6_0:=zAA BK117.out 0;have hfz6_1:=zAA BK117.out 1;have hfz6_2:=zAA BK117.out 2;have hfz6_3:=zAA BK117.out 3)|((with_reducible refine zAd (f:=37) rfl ?_);refine goesL_ (some 10) rfl rfl Tryd.func37 (by kernel_rfl) rfl #[.agg #[.string a0_0,.slice A0_1 l0_1.length c0_1,.int .i64 a0_2,.slice A0_3 l0_3.length c0_3]] rfl aM_ ?_;(with_reducible refine (tree_head.calls k a0_0 _ _ l0_1 a0_2 _ _ l0_3 t118 _ ?side1 ?side2 ?side3 ?side4 ?side5 A2.out).mono ?_);(case side1=>(first|(with_reducible exact hG)|((repeat (with_reducible first|exact hG|apply GW.drewN|apply GW.drew|apply GW.alloc));done)|exact GW.below hG (aI_ HB.out GE117.out)));(case side2=>repeat (first|exact (Kd.C_below HR0_1.out HB.out)|(with_reducible refine Kd.C_alloc ?_ _)|(with_reducible refine Kd.C_drewN ?_ _)|(with_reducible refine Kd.C_drew ?_)));(case side3=>exact HC0_1.out);(case side4=>repeat (first|exact (Kd.C_below HR0_3.out HB.out)|(with_reducible refine Kd.C_alloc ?_ _)|(with_reducible refine Kd.C_drewN ?_ _)|(with_reducible refine Kd.C_drew ?_)));(case side5=>exact HC0_3.out);rintro e w7 ⟨rfl,hb⟩;refine ⟨_,rfl,?_⟩;have n0_:=aK_ (zAM (g:=gb117) (o:=.cells #[.string a0_0,.slice A0_1 l0_1.length c0_1,.int .i64 a0_2,.slice A0_3 l0_3.length c0_3] 25 (0,0)) (aB_ BK117.out) hb);have n1_:=aK_ (zAG (aI_ HB.out GE117.out) hb);clear BK117;clear HB;have BK117:=n0_;have HB:=n1_;clear n0_ n1_;(try clear hb);(try clear hb2);(try clear hk);(try clear hi);have hcz8_0:w7.cell? ⟨gb117,0,none⟩=some (.string a0_0):=(zAB BK117.out 0).trans rfl;have hcz8_1:w7.cell? ⟨gb117,1,none⟩=some (.slice A0_1 l0_1.length c0_1):=(zAB BK117.out 1).trans rfl;have hcz8_2:w7.cell? ⟨gb117,2,none⟩=some (.int .i64 a0_2):=(zAB BK117.out 2).trans rfl;have hcz8_3:w7.cell? ⟨gb117,3,none⟩=some (.slice A0_3 l0_3.length c0_3):=(zAB BK117.out 3).trans rfl;have hfz8_0:=zAA BK117.out 0;have hfz8_1:=zAA BK117.out 1;have hfz8_2:=zAA BK117.out 2;have hfz8_3:=zAA BK117.out 3))
  go_ret2
  exact ⟨by first|rfl|(simp [zAQ,zAR] <;> rfl)|(simp [*,zAQ,zAR] <;> rfl),aI_ HB.out GE117.out⟩
 rw [if_neg c4] at H
 have c4b0:decide (1024<(l0_3.length:Int))=false:=decide_eq_false c4
 have c4b1:decide (1024<l0_3.length)=false:=decide_eq_false (by omega)
 clear c4
 have H':=aK_ H
 clear H
 go_enter Tryd.func16,Tryd.ntmps16
 go_wp2_with (first|((with_reducible refine zAX (N:=1) rfl ?_);refine zAW ?hg (N:=1) ?hd (cs:=#[.string a0_0,.slice A0_1 l0_1.length c0_1,.int .i64 a0_2,.slice A0_3 l0_3.length c0_3]) (t:=25) ?hr ?_;(case hd=>rfl);(case hg=>rfl);(case hr=>first|(go_simp;done)|(go_simp;rfl));intro gb117 hg w9 hbox hb;have n0_:=aK_ (zAG (aH_ HB.out) hb);have n1_:=aK_ (hbox);have n2_:=aK_ ((by rw [hg];exact (zAE (aH_ HB.out)):w.heap.size≤gb117));have n3_:=aK_ ((by rw [hg];exact (zAE (aH_ HB.out)):w.heap.size≤gb117));clear HB;have HB:=n0_;have BK117:=n1_;have GW117:=n2_;have GE117:=n3_;clear n0_ n1_ n2_ n3_;clear hb hbox hg;have hcz10_0:w9.cell? ⟨gb117,0,none⟩=some (.string a0_0):=(zAB BK117.out 0).trans rfl;have hcz10_1:w9.cell? ⟨gb117,1,none⟩=some (.slice A0_1 l0_1.length c0_1):=(zAB BK117.out 1).trans rfl;have hcz10_2:w9.cell? ⟨gb117,2,none⟩=some (.int .i64 a0_2):=(zAB BK117.out 2).trans rfl;have hcz10_3:w9.cell? ⟨gb117,3,none⟩=some (.slice A0_3 l0_3.length c0_3):=(zAB BK117.out 3).trans rfl;have hfz10_0:=zAA BK117.out 0;have hfz10_1:=zAA BK117.out 1;have hfz10_2:=zAA BK117.out 2;have hfz10_3:=zAA BK117.out 3)|((with_reducible refine zAd (f:=37) rfl ?_);refine goesL_ (some 10) rfl rfl Tryd.func37 (by kernel_rfl) rfl #[.agg #[.string a0_0,.slice A0_1 l0_1.length c0_1,.int .i64 a0_2,.slice A0_3 l0_3.length c0_3]] rfl aM_ ?_;(with_reducible refine (tree_head.calls k a0_0 _ _ l0_1 a0_2 _ _ l0_3 t118 _ ?side1 ?side2 ?side3 ?side4 ?side5 A2.out).mono ?_);(case side1=>(first|(with_reducible exact hG)|((repeat (with_reducible first|exact hG|apply GW.drewN|apply GW.drew|apply GW.alloc));done)|exact GW.below hG (aI_ HB.out GE117.out)));(case side2=>repeat (first|exact (Kd.C_below HR0_1.out HB.out)|(with_reducible refine Kd.C_alloc ?_ _)|(with_reducible refine Kd.C_drewN ?_ _)|(with_reducible refine Kd.C_drew ?_)));(case side3=>exact HC0_1.out);(case side4=>repeat (first|exact (Kd.C_below HR0_3.out HB.out)|(with_reducible refine Kd.C_alloc ?_ _)|(with_reducible refine Kd.C_drewN ?_ _)|(with_reducible refine Kd.C_drew ?_)));(case side5=>exact HC0_3.out);rintro e w11 ⟨rfl,hb⟩;refine ⟨_,rfl,?_⟩;have n0_:=aK_ (zAM (g:=gb117) (o:=.cells #[.string a0_0,.slice A0_1 l0_1.length c0_1,.int .i64 a0_2,.slice A0_3 l0_3.length c0_3] 25 (0,0)) (aB_ BK117.out) hb);have n1_:=aK_ (zAG (aI_ HB.out GE117.out) hb);clear BK117;clear HB;have BK117:=n0_;have HB:=n1_;clear n0_ n1_;(try clear hb);(try clear hb2);(try clear hk);(try clear hi);have hcz12_0:w11.cell? ⟨gb117,0,none⟩=some (.string a0_0):=(zAB BK117.out 0).trans rfl;have hcz12_1:w11.cell? ⟨gb117,1,none⟩=some (.slice A0_1 l0_1.length c0_1):=(zAB BK117.out 1).trans rfl;have hcz12_2:w11.cell? ⟨gb117,2,none⟩=some (.int .i64 a0_2):=(zAB BK117.out 2).trans rfl;have hcz12_3:w11.cell? ⟨gb117,3,none⟩=some (.slice A0_3 l0_3.length c0_3):=(zAB BK117.out 3).trans rfl;have hfz12_0:=zAA BK117.out 0;have hfz12_1:=zAA BK117.out 1;have hfz12_2:=zAA BK117.out 2;have hfz12_3:=zAA BK117.out 3))
 (try simp only [Act.put,List.setIfInBounds_toArray,List.set_cons_zero,List.set_cons_succ])
 go_loopg [5,21] k (fun kq v5 v21 w'=>∃ (x5_1:Int) (x21_1:Int),v5 = .int .i64 x5_1∧v21 = .int .i64 x21_1∧zAJ (tree_Check.l0 kq x5_1 l0_3 (l0_3.length:Int) x21_1 a0_0 l0_1 a0_2 l0_3=some (r1,r2))∧zAJ (kq≤k)∧zAJ (w'.heap[gb117]?=some (.cells #[.string a0_0,(.slice A0_1 l0_1.length c0_1),.int .i64 a0_2,(.slice A0_3 l0_3.length c0_3)] 25 (0,0)))∧zAJ (Below w.heap.size w w'))
 case atStart=>exact ⟨(0),(0),aS2_,aS2_,H',⟨Nat.le_refl _⟩,⟨aB_ BK117.out⟩,⟨aI_ HB.out GE117.out⟩⟩
 clear H'
 try clear c1
 try clear p2
 try clear c3
 try clear c3b0
 try clear c3b1
 try clear c4
 try clear c4b0
 try clear c4b1
 try clear hcz10_0
 try clear hcz10_1
 try clear hcz10_2
 try clear hcz10_3
 try clear hcz12_0
 try clear hcz12_1
 try clear hcz12_2
 try clear hcz12_3
 try clear hcz6_0
 try clear hcz6_1
 try clear hcz6_2
 try clear hcz6_3
 try clear hcz8_0
 try clear hcz8_1
 try clear hcz8_2
 try clear hcz8_3
 try clear hfz10_0
 try clear hfz10_1
 try clear hfz10_2
 try clear hfz10_3
 try clear hfz12_0
 try clear hfz12_1
 try clear hfz12_2
 try clear hfz12_3
 try clear hfz6_0
 try clear hfz6_1
 try clear hfz6_2
 try clear hfz6_3
 try clear hfz8_0
 try clear hfz8_1
 try clear hfz8_2
 try clear hfz8_3
 obtain ⟨x5_1,x21_1,rfl,rfl,HA,HK1,BK117,HB⟩:=hrel
 cases gk with
 |zero=>exact absurd HA.out (by simp [tree_Check.l0])
 |succ k1=>?_
 have H:=HA.out
 clear HA
 simp only [tree_Check.l0] at H
 by_cases c13:x21_1<(l0_3.length:Int)
 rotate_left
 ·rw [if_neg c13] at H
  have c13b0:decide (x21_1<(l0_3.length:Int))=false:=decide_eq_false c13
  clear c13
  by_cases c31:x5_1=1
  ·rw [if_pos c31] at H
   have c31b0:(x5_1 == 1)=true:=beq_iff_eq.mpr c31
   have c31b1:(x5_1 != 1)=false:=bne_eq_false_iff_eq.mpr c31
   clear c31
   simp only [Option.some.injEq,Prod.mk.injEq] at H
   obtain ⟨rfl,rfl⟩:=H
   go_wp2
   go_ret2
   exact ⟨by first|rfl|(simp [zAQ,zAR] <;> rfl)|(simp [*,zAQ,zAR] <;> rfl),aI_ HB.out GE117.out⟩
  rw [if_neg c31] at H
  have c31b0:(x5_1 == 1)=false:=beq_eq_false_iff_ne.mpr c31
  have c31b1:(x5_1 != 1)=true:=bne_iff_ne.mpr c31
  simp only [Option.some.injEq,Prod.mk.injEq] at H
  obtain ⟨rfl,rfl⟩:=H
  have hcz32_0:wr.cell? ⟨gb117,0,none⟩=some (.string a0_0):=(zAB BK117.out 0).trans rfl
  have hcz32_1:wr.cell? ⟨gb117,1,none⟩=some (.slice A0_1 l0_1.length c0_1):=(zAB BK117.out 1).trans rfl
  have hcz32_2:wr.cell? ⟨gb117,2,none⟩=some (.int .i64 a0_2):=(zAB BK117.out 2).trans rfl
  have hcz32_3:wr.cell? ⟨gb117,3,none⟩=some (.slice A0_3 l0_3.length c0_3):=(zAB BK117.out 3).trans rfl
  have hfz32_0:=zAA BK117.out 0
  have hfz32_1:=zAA BK117.out 1
  have hfz32_2:=zAA BK117.out 2
  have hfz32_3:=zAA BK117.out 3
  go_wp2
  go_ret2
  exact ⟨by first|rfl|(simp [zAQ,zAR] <;> rfl)|(simp [*,zAQ,zAR] <;> rfl),aI_ HB.out GE117.out⟩
 rw [if_pos c13] at H
 have c13b0:decide (x21_1<(l0_3.length:Int))=true:=decide_eq_true c13
 clear c13
 have c14:=yes_ H
 rw [if_pos c14] at H
 have c14b0:decide (0≤x21_1)=true:=decide_eq_true c14
 clear c14
 have c15:=yes_ H
 rw [if_pos c15] at H
 have c15b0:decide (x21_1<(l0_3.length:Int))=true:=decide_eq_true c15
 clear c15
 replace H:=Option.bind_eq_some_iff.mp H
 obtain ⟨t121,A160,H⟩:=H
 replace H:(if t121=0 then ((tree_takes.f ((zAD l0_3 x21_1).f0) ((zAD l0_3 x21_1).f1) ((zAD l0_3 x21_1).f2) ((zAD l0_3 x21_1).f3) ((zAD l0_3 x21_1).f4) ((zAD l0_3 x21_1).f5)).bind fun t122=>(tree_Check.l0 k1 (wrap64 (x5_1+(wrap64 (1 - t122)))) l0_3 (l0_3.length:Int) (wrap64 (x21_1+1)) a0_0 l0_1 a0_2 l0_3)) else (some (x21_1,t121)))=some (r1,r2):=H
 have A16:=aK_ A160
 clear A160
 by_cases c17:t121=0
 rotate_left
 ·rw [if_neg c17] at H
  have c17b0:(t121 == 0)=false:=beq_eq_false_iff_ne.mpr c17
  have c17b1:(t121 != 0)=true:=bne_iff_ne.mpr c17
  simp only [Option.some.injEq,Prod.mk.injEq] at H
  obtain ⟨rfl,rfl⟩:=H
  have p119:0≤(x21_1:Int):=aD_
  have q119:x21_1<(l0_3.length:Int):=aD_
  obtain ⟨ad119,A119_4,c119_4,e119,hx119_0,hx119_1,hx119_2,hx119_3,hx119_4,hx119_5,hl119_4,hi119_4⟩:=at_T33 HR0_3.out x21_1 p119 q119
  cases e119
  replace hx119_0:=(HB.out.cell (World.block_lt_of_cell? w _ hx119_0)).trans hx119_0
  replace hx119_1:=(HB.out.cell (World.block_lt_of_cell? w _ hx119_1)).trans hx119_1
  replace hx119_2:=(HB.out.cell (World.block_lt_of_cell? w _ hx119_2)).trans hx119_2
  replace hx119_3:=(HB.out.cell (World.block_lt_of_cell? w _ hx119_3)).trans hx119_3
  replace hx119_4:=(HB.out.cell (World.block_lt_of_cell? w _ hx119_4)).trans hx119_4
  replace hx119_5:=(HB.out.cell (World.block_lt_of_cell? w _ hx119_5)).trans hx119_5
  have HR119_4:=aK_ hi119_4
  have HC119_4:=aK_ hl119_4
  clear hi119_4 hl119_4
  replace p119:=eq_true p119
  replace q119:=eq_true q119
  go_wp2_with (first|((with_reducible refine zAX (N:=7) rfl ?_);refine zAW ?hg (N:=7) ?hd (cs:=#[.int .i64 0,.int .i64 0,.int .i64 0,.int .i64 0,.slice none 0 0,.int .i64 0]) (t:=33) ?hr ?_;(case hd=>rfl);(case hg=>rfl);(case hr=>first|(go_simp;done)|(go_simp;rfl));intro gb120 hg w26 hbox hb;have n0_:=aK_ (zAM (g:=gb117) (o:=.cells #[.string a0_0,.slice A0_1 l0_1.length c0_1,.int .i64 a0_2,.slice (some ad119) l0_3.length c0_3] 25 (0,0)) (aB_ BK117.out) hb);have n1_:=aK_ (zAG (aI_ HB.out GE117.out) hb);have n2_:=aK_ (hbox);have n3_:=aK_ ((by rw [hg];exact (zAE (aI_ HB.out GE117.out)):w.heap.size≤gb120));have n4_:=aK_ ((by rw [hg];exact (zAE (aI_ HB.out GE117.out)):w.heap.size≤gb120));have n5_:=aK_ ((by rw [hg];exact Nat.ne_of_lt (blk_lt (g:=gb117) (o:=.cells #[.string a0_0,.slice A0_1 l0_1.length c0_1,.int .i64 a0_2,.slice (some ad119) l0_3.length c0_3] 25 (0,0)) (aB_ BK117.out)):gb117≠gb120));have n6_:=aK_ ((by rw [hg];exact Nat.ne_of_gt (blk_lt (g:=gb117) (o:=.cells #[.string a0_0,.slice A0_1 l0_1.length c0_1,.int .i64 a0_2,.slice (some ad119) l0_3.length c0_3] 25 (0,0)) (aB_ BK117.out)):gb120≠gb117));clear BK117;clear HB;have BK117:=n0_;have HB:=n1_;have BK120:=n2_;have GW120:=n3_;have GE120:=n4_;have NB117_120:=n5_;have NB120_117:=n6_;clear n0_ n1_ n2_ n3_ n4_ n5_ n6_;clear hb hbox hg;have hnb27:=NB120_117.out;have hnc27:=NB117_120.out;have hcz28_0:w26.cell? ⟨gb120,0,none⟩=some (.int .i64 0):=(zAB BK120.out 0).trans rfl;have hcz28_1:w26.cell? ⟨gb120,1,none⟩=some (.int .i64 0):=(zAB BK120.out 1).trans rfl;have hcz28_2:w26.cell? ⟨gb120,2,none⟩=some (.int .i64 0):=(zAB BK120.out 2).trans rfl;have hcz28_3:w26.cell? ⟨gb120,3,none⟩=some (.int .i64 0):=(zAB BK120.out 3).trans rfl;have hcz28_4:w26.cell? ⟨gb120,4,none⟩=some (.slice none 0 0):=(zAB BK120.out 4).trans rfl;have hcz28_5:w26.cell? ⟨gb120,5,none⟩=some (.int .i64 0):=(zAB BK120.out 5).trans rfl;have hfz28_0:=zAA BK120.out 0;have hfz28_1:=zAA BK120.out 1;have hfz28_2:=zAA BK120.out 2;have hfz28_3:=zAA BK120.out 3;have hfz28_4:=zAA BK120.out 4;have hfz28_5:=zAA BK120.out 5;have hcz29_0:w26.cell? ⟨gb117,0,none⟩=some (.string a0_0):=(zAB BK117.out 0).trans rfl;have hcz29_1:w26.cell? ⟨gb117,1,none⟩=some (.slice A0_1 l0_1.length c0_1):=(zAB BK117.out 1).trans rfl;have hcz29_2:w26.cell? ⟨gb117,2,none⟩=some (.int .i64 a0_2):=(zAB BK117.out 2).trans rfl;have hcz29_3:w26.cell? ⟨gb117,3,none⟩=some (.slice (some ad119) l0_3.length c0_3):=(zAB BK117.out 3).trans rfl;have hfz29_0:=zAA BK117.out 0;have hfz29_1:=zAA BK117.out 1;have hfz29_2:=zAA BK117.out 2;have hfz29_3:=zAA BK117.out 3)|((with_reducible refine zAd (f:=38) rfl ?_);refine goesL_ (some 31) rfl rfl Tryd.func38 (by kernel_rfl) rfl #[.agg #[.int .i64 ((zAD l0_3 x21_1).f0),.int .i64 ((zAD l0_3 x21_1).f1),.int .i64 ((zAD l0_3 x21_1).f2),.int .i64 ((zAD l0_3 x21_1).f3),.slice A119_4 ((zAD l0_3 x21_1).f4).length c119_4,.int .i64 ((zAD l0_3 x21_1).f5)],.int .i64 (l0_1.length:Int),.int .i64 x5_1] rfl aM_ ?_;(with_reducible refine (tree_node.calls k1 ((zAD l0_3 x21_1).f0) ((zAD l0_3 x21_1).f1) ((zAD l0_3 x21_1).f2) ((zAD l0_3 x21_1).f3) _ _ ((zAD l0_3 x21_1).f4) ((zAD l0_3 x21_1).f5) (l0_1.length:Int) x5_1 t121 _ ?side1 ?side2 ?side3 A16.out).mono ?_);(case side1=>(first|(with_reducible exact hG)|((repeat (with_reducible first|exact hG|apply GW.drewN|apply GW.drew|apply GW.alloc));done)|exact GW.below hG (aJ_ HB.out GE117.out GE120.out)));(case side2=>exact Kd.C_below HR119_4.out (aJ_ HB.out GE117.out GE120.out));(case side3=>exact HC119_4.out);rintro e w30 ⟨rfl,hb⟩;refine ⟨_,rfl,?_⟩;have n0_:=aK_ (zAM (g:=gb117) (o:=.cells #[.string a0_0,.slice A0_1 l0_1.length c0_1,.int .i64 a0_2,.slice (some ad119) l0_3.length c0_3] 25 (0,0)) (by refine aB_ ?_;refine zAV ?_ NB117_120.out _;refine aB_ ?_;refine zAV ?_ NB117_120.out _;refine aB_ ?_;refine zAV ?_ NB117_120.out _;refine aB_ ?_;refine zAV ?_ NB117_120.out _;refine aB_ ?_;refine zAV ?_ NB117_120.out _;refine aB_ ?_;refine zAV ?_ NB117_120.out _;refine aB_ ?_;exact BK117.out) hb);have n1_:=aK_ (zAM (g:=gb120) (o:=.cells #[.int .i64 ((zAD l0_3 x21_1).f0),.int .i64 ((zAD l0_3 x21_1).f1),.int .i64 ((zAD l0_3 x21_1).f2),.int .i64 ((zAD l0_3 x21_1).f3),.slice A119_4 ((zAD l0_3 x21_1).f4).length c119_4,.int .i64 ((zAD l0_3 x21_1).f5)] 33 (0,0)) (by refine aB_ ?_;refine zAa (cs:=#[.int .i64 ((zAD l0_3 x21_1).f0),.int .i64 ((zAD l0_3 x21_1).f1),.int .i64 ((zAD l0_3 x21_1).f2),.int .i64 ((zAD l0_3 x21_1).f3),.slice A119_4 ((zAD l0_3 x21_1).f4).length c119_4,.int .i64 0]) ?_ 5 _ rfl;refine aB_ ?_;refine zAa (cs:=#[.int .i64 ((zAD l0_3 x21_1).f0),.int .i64 ((zAD l0_3 x21_1).f1),.int .i64 ((zAD l0_3 x21_1).f2),.int .i64 ((zAD l0_3 x21_1).f3),.slice none 0 0,.int .i64 0]) ?_ 4 _ rfl;refine aB_ ?_;refine zAa (cs:=#[.int .i64 ((zAD l0_3 x21_1).f0),.int .i64 ((zAD l0_3 x21_1).f1),.int .i64 ((zAD l0_3 x21_1).f2),.int .i64 0,.slice none 0 0,.int .i64 0]) ?_ 3 _ rfl;refine aB_ ?_;refine zAa (cs:=#[.int .i64 ((zAD l0_3 x21_1).f0),.int .i64 ((zAD l0_3 x21_1).f1),.int .i64 0,.int .i64 0,.slice none 0 0,.int .i64 0]) ?_ 2 _ rfl;refine aB_ ?_;refine zAa (cs:=#[.int .i64 ((zAD l0_3 x21_1).f0),.int .i64 0,.int .i64 0,.int .i64 0,.slice none 0 0,.int .i64 0]) ?_ 1 _ rfl;refine aB_ ?_;refine zAa (cs:=#[.int .i64 0,.int .i64 0,.int .i64 0,.int .i64 0,.slice none 0 0,.int .i64 0]) ?_ 0 _ rfl;refine aB_ ?_;exact BK120.out) hb);have n2_:=aK_ (zAG (aJ_ HB.out GE117.out GE120.out) hb);clear BK117;clear BK120;clear HB;have BK117:=n0_;have BK120:=n1_;have HB:=n2_;clear n0_ n1_ n2_;(try clear hb);(try clear hb2);(try clear hk);(try clear hi)))
  go_ret2
  exact ⟨by first|rfl|(simp [zAQ,zAR] <;> rfl)|(simp [*,zAQ,zAR] <;> rfl),aJ_ HB.out GE117.out GE120.out⟩
 rw [if_pos c17] at H
 have c17b0:(t121 == 0)=true:=beq_iff_eq.mpr c17
 have c17b1:(t121 != 0)=false:=bne_eq_false_iff_eq.mpr c17
 clear c17
 replace H:=Option.bind_eq_some_iff.mp H
 obtain ⟨t122,A180,H⟩:=H
 replace H:(tree_Check.l0 k1 (wrap64 (x5_1+(wrap64 (1 - t122)))) l0_3 (l0_3.length:Int) (wrap64 (x21_1+1)) a0_0 l0_1 a0_2 l0_3)=some (r1,r2):=H
 have A18:=aK_ A180
 clear A180
 have H':=aK_ H
 clear H
 have p119:0≤(x21_1:Int):=aD_
 have q119:x21_1<(l0_3.length:Int):=aD_
 obtain ⟨ad119,A119_4,c119_4,e119,hx119_0,hx119_1,hx119_2,hx119_3,hx119_4,hx119_5,hl119_4,hi119_4⟩:=at_T33 HR0_3.out x21_1 p119 q119
 cases e119
 replace hx119_0:=(HB.out.cell (World.block_lt_of_cell? w _ hx119_0)).trans hx119_0
 replace hx119_1:=(HB.out.cell (World.block_lt_of_cell? w _ hx119_1)).trans hx119_1
 replace hx119_2:=(HB.out.cell (World.block_lt_of_cell? w _ hx119_2)).trans hx119_2
 replace hx119_3:=(HB.out.cell (World.block_lt_of_cell? w _ hx119_3)).trans hx119_3
 replace hx119_4:=(HB.out.cell (World.block_lt_of_cell? w _ hx119_4)).trans hx119_4
 replace hx119_5:=(HB.out.cell (World.block_lt_of_cell? w _ hx119_5)).trans hx119_5
 have HR119_4:=aK_ hi119_4
 have HC119_4:=aK_ hl119_4
 clear hi119_4 hl119_4
 replace p119:=eq_true p119
 replace q119:=eq_true q119
 go_wp2_with (first|((with_reducible refine zAX (N:=7) rfl ?_);refine zAW ?hg (N:=7) ?hd (cs:=#[.int .i64 0,.int .i64 0,.int .i64 0,.int .i64 0,.slice none 0 0,.int .i64 0]) (t:=33) ?hr ?_;(case hd=>rfl);(case hg=>rfl);(case hr=>first|(go_simp;done)|(go_simp;rfl));intro gb120 hg w19 hbox hb;have n0_:=aK_ (zAM (g:=gb117) (o:=.cells #[.string a0_0,.slice A0_1 l0_1.length c0_1,.int .i64 a0_2,.slice (some ad119) l0_3.length c0_3] 25 (0,0)) (aB_ BK117.out) hb);have n1_:=aK_ (zAG (aI_ HB.out GE117.out) hb);have n2_:=aK_ (hbox);have n3_:=aK_ ((by rw [hg];exact (zAE (aI_ HB.out GE117.out)):w.heap.size≤gb120));have n4_:=aK_ ((by rw [hg];exact (zAE (aI_ HB.out GE117.out)):w.heap.size≤gb120));have n5_:=aK_ ((by rw [hg];exact Nat.ne_of_lt (blk_lt (g:=gb117) (o:=.cells #[.string a0_0,.slice A0_1 l0_1.length c0_1,.int .i64 a0_2,.slice (some ad119) l0_3.length c0_3] 25 (0,0)) (aB_ BK117.out)):gb117≠gb120));have n6_:=aK_ ((by rw [hg];exact Nat.ne_of_gt (blk_lt (g:=gb117) (o:=.cells #[.string a0_0,.slice A0_1 l0_1.length c0_1,.int .i64 a0_2,.slice (some ad119) l0_3.length c0_3] 25 (0,0)) (aB_ BK117.out)):gb120≠gb117));clear BK117;clear HB;have BK117:=n0_;have HB:=n1_;have BK120:=n2_;have GW120:=n3_;have GE120:=n4_;have NB117_120:=n5_;have NB120_117:=n6_;clear n0_ n1_ n2_ n3_ n4_ n5_ n6_;clear hb hbox hg;have hnb20:=NB120_117.out;have hnc20:=NB117_120.out;have hcz21_0:w19.cell? ⟨gb120,0,none⟩=some (.int .i64 0):=(zAB BK120.out 0).trans rfl;have hcz21_1:w19.cell? ⟨gb120,1,none⟩=some (.int .i64 0):=(zAB BK120.out 1).trans rfl;have hcz21_2:w19.cell? ⟨gb120,2,none⟩=some (.int .i64 0):=(zAB BK120.out 2).trans rfl;have hcz21_3:w19.cell? ⟨gb120,3,none⟩=some (.int .i64 0):=(zAB BK120.out 3).trans rfl;have hcz21_4:w19.cell? ⟨gb120,4,none⟩=some (.slice none 0 0):=(zAB BK120.out 4).trans rfl;have hcz21_5:w19.cell? ⟨gb120,5,none⟩=some (.int .i64 0):=(zAB BK120.out 5).trans rfl;have hfz21_0:=zAA BK120.out 0;have hfz21_1:=zAA BK120.out 1;have hfz21_2:=zAA BK120.out 2;have hfz21_3:=zAA BK120.out 3;have hfz21_4:=zAA BK120.out 4;have hfz21_5:=zAA BK120.out 5;have hcz22_0:w19.cell? ⟨gb117,0,none⟩=some (.string a0_0):=(zAB BK117.out 0).trans rfl;have hcz22_1:w19.cell? ⟨gb117,1,none⟩=some (.slice A0_1 l0_1.length c0_1):=(zAB BK117.out 1).trans rfl;have hcz22_2:w19.cell? ⟨gb117,2,none⟩=some (.int .i64 a0_2):=(zAB BK117.out 2).trans rfl;have hcz22_3:w19.cell? ⟨gb117,3,none⟩=some (.slice (some ad119) l0_3.length c0_3):=(zAB BK117.out 3).trans rfl;have hfz22_0:=zAA BK117.out 0;have hfz22_1:=zAA BK117.out 1;have hfz22_2:=zAA BK117.out 2;have hfz22_3:=zAA BK117.out 3)|((with_reducible refine zAd (f:=38) rfl ?_);refine goesL_ (some 31) rfl rfl Tryd.func38 (by kernel_rfl) rfl #[.agg #[.int .i64 ((zAD l0_3 x21_1).f0),.int .i64 ((zAD l0_3 x21_1).f1),.int .i64 ((zAD l0_3 x21_1).f2),.int .i64 ((zAD l0_3 x21_1).f3),.slice A119_4 ((zAD l0_3 x21_1).f4).length c119_4,.int .i64 ((zAD l0_3 x21_1).f5)],.int .i64 (l0_1.length:Int),.int .i64 x5_1] rfl aM_ ?_;(with_reducible refine (tree_node.calls k1 ((zAD l0_3 x21_1).f0) ((zAD l0_3 x21_1).f1) ((zAD l0_3 x21_1).f2) ((zAD l0_3 x21_1).f3) _ _ ((zAD l0_3 x21_1).f4) ((zAD l0_3 x21_1).f5) (l0_1.length:Int) x5_1 t121 _ ?side1 ?side2 ?side3 A16.out).mono ?_);(case side1=>(first|(with_reducible exact hG)|((repeat (with_reducible first|exact hG|apply GW.drewN|apply GW.drew|apply GW.alloc));done)|exact GW.below hG (aJ_ HB.out GE117.out GE120.out)));(case side2=>exact Kd.C_below HR119_4.out (aJ_ HB.out GE117.out GE120.out));(case side3=>exact HC119_4.out);rintro e w23 ⟨rfl,hb⟩;refine ⟨_,rfl,?_⟩;have n0_:=aK_ (zAM (g:=gb117) (o:=.cells #[.string a0_0,.slice A0_1 l0_1.length c0_1,.int .i64 a0_2,.slice (some ad119) l0_3.length c0_3] 25 (0,0)) (by refine aB_ ?_;refine zAV ?_ NB117_120.out _;refine aB_ ?_;refine zAV ?_ NB117_120.out _;refine aB_ ?_;refine zAV ?_ NB117_120.out _;refine aB_ ?_;refine zAV ?_ NB117_120.out _;refine aB_ ?_;refine zAV ?_ NB117_120.out _;refine aB_ ?_;refine zAV ?_ NB117_120.out _;refine aB_ ?_;exact BK117.out) hb);have n1_:=aK_ (zAM (g:=gb120) (o:=.cells #[.int .i64 ((zAD l0_3 x21_1).f0),.int .i64 ((zAD l0_3 x21_1).f1),.int .i64 ((zAD l0_3 x21_1).f2),.int .i64 ((zAD l0_3 x21_1).f3),.slice A119_4 ((zAD l0_3 x21_1).f4).length c119_4,.int .i64 ((zAD l0_3 x21_1).f5)] 33 (0,0)) (by refine aB_ ?_;refine zAa (cs:=#[.int .i64 ((zAD l0_3 x21_1).f0),.int .i64 ((zAD l0_3 x21_1).f1),.int .i64 ((zAD l0_3 x21_1).f2),.int .i64 ((zAD l0_3 x21_1).f3),.slice A119_4 ((zAD l0_3 x21_1).f4).length c119_4,.int .i64 0]) ?_ 5 _ rfl;refine aB_ ?_;refine zAa (cs:=#[.int .i64 ((zAD l0_3 x21_1).f0),.int .i64 ((zAD l0_3 x21_1).f1),.int .i64 ((zAD l0_3 x21_1).f2),.int .i64 ((zAD l0_3 x21_1).f3),.slice none 0 0,.int .i64 0]) ?_ 4 _ rfl;refine aB_ ?_;refine zAa (cs:=#[.int .i64 ((zAD l0_3 x21_1).f0),.int .i64 ((zAD l0_3 x21_1).f1),.int .i64 ((zAD l0_3 x21_1).f2),.int .i64 0,.slice none 0 0,.int .i64 0]) ?_ 3 _ rfl;refine aB_ ?_;refine zAa (cs:=#[.int .i64 ((zAD l0_3 x21_1).f0),.int .i64 ((zAD l0_3 x21_1).f1),.int .i64 0,.int .i64 0,.slice none 0 0,.int .i64 0]) ?_ 2 _ rfl;refine aB_ ?_;refine zAa (cs:=#[.int .i64 ((zAD l0_3 x21_1).f0),.int .i64 0,.int .i64 0,.int .i64 0,.slice none 0 0,.int .i64 0]) ?_ 1 _ rfl;refine aB_ ?_;refine zAa (cs:=#[.int .i64 0,.int .i64 0,.int .i64 0,.int .i64 0,.slice none 0 0,.int .i64 0]) ?_ 0 _ rfl;refine aB_ ?_;exact BK120.out) hb);have n2_:=aK_ (zAG (aJ_ HB.out GE117.out GE120.out) hb);clear BK117;clear BK120;clear HB;have BK117:=n0_;have BK120:=n1_;have HB:=n2_;clear n0_ n1_ n2_;(try clear hb);(try clear hb2);(try clear hk);(try clear hi);have hcz24_0:w23.cell? ⟨gb120,0,none⟩=some (.int .i64 ((zAD l0_3 x21_1).f0)):=(zAB BK120.out 0).trans rfl;have hcz24_1:w23.cell? ⟨gb120,1,none⟩=some (.int .i64 ((zAD l0_3 x21_1).f1)):=(zAB BK120.out 1).trans rfl;have hcz24_2:w23.cell? ⟨gb120,2,none⟩=some (.int .i64 ((zAD l0_3 x21_1).f2)):=(zAB BK120.out 2).trans rfl;have hcz24_3:w23.cell? ⟨gb120,3,none⟩=some (.int .i64 ((zAD l0_3 x21_1).f3)):=(zAB BK120.out 3).trans rfl;have hcz24_4:w23.cell? ⟨gb120,4,none⟩=some (.slice A119_4 ((zAD l0_3 x21_1).f4).length c119_4):=(zAB BK120.out 4).trans rfl;have hcz24_5:w23.cell? ⟨gb120,5,none⟩=some (.int .i64 ((zAD l0_3 x21_1).f5)):=(zAB BK120.out 5).trans rfl;have hfz24_0:=zAA BK120.out 0;have hfz24_1:=zAA BK120.out 1;have hfz24_2:=zAA BK120.out 2;have hfz24_3:=zAA BK120.out 3;have hfz24_4:=zAA BK120.out 4;have hfz24_5:=zAA BK120.out 5)|((with_reducible refine zAd (f:=39) rfl ?_);refine goesL_ (some 38) rfl rfl Tryd.func39 (by kernel_rfl) rfl #[.agg #[.int .i64 ((zAD l0_3 x21_1).f0),.int .i64 ((zAD l0_3 x21_1).f1),.int .i64 ((zAD l0_3 x21_1).f2),.int .i64 ((zAD l0_3 x21_1).f3),.slice A119_4 ((zAD l0_3 x21_1).f4).length c119_4,.int .i64 ((zAD l0_3 x21_1).f5)]] rfl aM_ ?_;(with_reducible refine (tree_takes.calls ((zAD l0_3 x21_1).f0) ((zAD l0_3 x21_1).f1) ((zAD l0_3 x21_1).f2) ((zAD l0_3 x21_1).f3) _ _ ((zAD l0_3 x21_1).f4) ((zAD l0_3 x21_1).f5) t122 _ ?side1 ?side2 ?side3 A18.out).mono ?_);(case side1=>(first|(with_reducible exact hG)|((repeat (with_reducible first|exact hG|apply GW.drewN|apply GW.drew|apply GW.alloc));done)|exact GW.below hG (aJ_ HB.out GE117.out GE120.out)));(case side2=>repeat (first|exact (Kd.C_below HR119_4.out HB.out)|(with_reducible refine Kd.C_alloc ?_ _)|(with_reducible refine Kd.C_drewN ?_ _)|(with_reducible refine Kd.C_drew ?_)));(case side3=>exact HC119_4.out);rintro e w25 ⟨rfl,hb⟩;refine ⟨_,rfl,?_⟩;have n0_:=aK_ (zAM (g:=gb117) (o:=.cells #[.string a0_0,.slice A0_1 l0_1.length c0_1,.int .i64 a0_2,.slice (some ad119) l0_3.length c0_3] 25 (0,0)) (aB_ BK117.out) hb);have n1_:=aK_ (zAM (g:=gb120) (o:=.cells #[.int .i64 ((zAD l0_3 x21_1).f0),.int .i64 ((zAD l0_3 x21_1).f1),.int .i64 ((zAD l0_3 x21_1).f2),.int .i64 ((zAD l0_3 x21_1).f3),.slice A119_4 ((zAD l0_3 x21_1).f4).length c119_4,.int .i64 ((zAD l0_3 x21_1).f5)] 33 (0,0)) (aB_ BK120.out) hb);have n2_:=aK_ (zAG (aJ_ HB.out GE117.out GE120.out) hb);clear BK117;clear BK120;clear HB;have BK117:=n0_;have BK120:=n1_;have HB:=n2_;clear n0_ n1_ n2_;(try clear hb);(try clear hb2);(try clear hk);(try clear hi)))
 go_roundg k1
 case measure=>have:=HK1.out;omega
 case rel=>exact ⟨(wrap64 (x5_1+(wrap64 (1 - t122)))),(wrap64 (x21_1+1)),aS2_,aS2_,H',⟨by have:=HK1.out;omega⟩,⟨aB_ BK117.out⟩,⟨aJ_ HB.out GE117.out GE120.out⟩⟩
end Go.Proofs.YthbnigjckjkmnaaDoor.S

namespace Go.Proofs.YthbnigjckjkmnaaDoor.S
open Go.RowKit Go.Proofs.YthbnigjckjkmnaaDoorW.PrintWords Go.Proofs.YthbnigjckjkmnaaDoorW.PrintLast Go.Proofs.YthbnigjckjkmnaaDoorW.PrintMore
attribute [local go_sem] max2_int min2_int max_two min_two max_three min_three max_four min_four
def tree_Firsts.f (k:Nat) (a0_0:ByteArray) (l0_1:List (S47)) (a0_2:Int) (l0_3:List (S33)):Option (List Int × Int):=(tree_Check.f k a0_0 l0_1 a0_2 l0_3).bind fun bt146=>(if bt146.2=0 then ((tree_firsts.f k a0_0 l0_1 a0_2 l0_3).bind fun t148=>(some (t148,0))) else (some (([]:List Int),bt146.2)))
theorem tree_Firsts.mono:∀ a0 a1 a2 a3 k,LeO (tree_Firsts.f k a0 a1 a2 a3) (tree_Firsts.f (k+1) a0 a1 a2 a3):=by
 intro a0 a1 a2 a3 k
 unfold tree_Firsts.f
 repeat' first
   |(with_reducible exact tree_Check.mono _ _ _ _ _)
   |(with_reducible exact tree_firsts.mono _ _ _ _ _)
   |(with_reducible exact LeO.refl _)
   |(with_reducible exact LeO.none _)
   |(with_reducible refine LeO.ite ?_ ?_)
   |(with_reducible refine LeO.bind ?_ (fun _=>?_))
   |exact tree_Check.mono _ _ _ _ _
   |exact tree_firsts.mono _ _ _ _ _
   |exact LeO.none _
   |refine LeO.ite ?_ ?_
   |refine LeO.bind ?_ (fun _=>?_)
set_option maxHeartbeats 8000000 in
set_option maxRecDepth 100000 in
theorem tree_Firsts.calls (k:Nat) (a0_0:ByteArray) (A0_1:Option Addr) (c0_1:Nat) (l0_1:List (S47)) (a0_2:Int) (A0_3:Option Addr) (c0_3:Nat) (l0_3:List (S33)) (r1:List Int) (r2:Int) (w:World) (hG:GW w) (hr0_1:Kd.C k47 w A0_1 l0_1.length l0_1) (hc0_1:l0_1.length≤c0_1) (hr0_3:Kd.C k33 w A0_3 l0_3.length l0_3) (hc0_3:l0_3.length≤c0_3) (h:tree_Firsts.f k a0_0 l0_1 a0_2 l0_3=some (r1,r2)) :
  Calls Tryd.prog 23 #[.agg #[.string a0_0,.slice A0_1 l0_1.length c0_1,.int .i64 a0_2,.slice A0_3 l0_3.length c0_3]] w fun e w'=>∃ v0_:Value,e = .returned (.tuple #[v0_,.int .i64 r2])∧Kd.R (Kd.int .i64) 3 w' w.heap.size (fun _=>True) v0_ r1∧Below w.heap.size w w':=by
 have hu25:=Tryd.underlying25
 have HR0_1:=aK_ hr0_1
 have HC0_1:=aK_ hc0_1
 clear hr0_1 hc0_1
 have HR0_3:=aK_ hr0_3
 have HC0_3:=aK_ hc0_3
 clear hr0_3 hc0_3
 have HB:=aK_ (Below.refl w.heap.size w)
 have H:((tree_Check.f k a0_0 l0_1 a0_2 l0_3).bind fun bt146=>(if bt146.2=0 then ((tree_firsts.f k a0_0 l0_1 a0_2 l0_3).bind fun t148=>(some (t148,0))) else (some (([]:List Int),bt146.2))))=some (r1,r2):=h
 clear h
 replace H:=Option.bind_eq_some_iff.mp H
 obtain ⟨⟨t146,t147⟩,A20,H⟩:=H
 replace H:(if t147=0 then ((tree_firsts.f k a0_0 l0_1 a0_2 l0_3).bind fun t148=>(some (t148,0))) else (some (([]:List Int),t147)))=some (r1,r2):=H
 have A2:=aK_ A20
 clear A20
 by_cases c3:t147=0
 rotate_left
 ·rw [if_neg c3] at H
  have c3b0:(t147 == 0)=false:=beq_eq_false_iff_ne.mpr c3
  have c3b1:(t147 != 0)=true:=bne_iff_ne.mpr c3
  simp only [Option.some.injEq,Prod.mk.injEq] at H
  obtain ⟨rfl,rfl⟩:=H
  go_enter Tryd.func23,Tryd.ntmps23
  go_wp2_with (first|((with_reducible refine zAX (N:=1) rfl ?_);refine zAW ?hg (N:=1) ?hd (cs:=#[.string a0_0,.slice A0_1 l0_1.length c0_1,.int .i64 a0_2,.slice A0_3 l0_3.length c0_3]) (t:=25) ?hr ?_;(case hd=>rfl);(case hg=>rfl);(case hr=>first|(go_simp;done)|(go_simp;rfl));intro gb145 hg w10 hbox hb;have n0_:=aK_ (zAG (aH_ HB.out) hb);have n1_:=aK_ (hbox);have n2_:=aK_ ((by rw [hg];exact (zAE (aH_ HB.out)):w.heap.size≤gb145));have n3_:=aK_ ((by rw [hg];exact (zAE (aH_ HB.out)):w.heap.size≤gb145));clear HB;have HB:=n0_;have BK145:=n1_;have GW145:=n2_;have GE145:=n3_;clear n0_ n1_ n2_ n3_;clear hb hbox hg;have hcz11_0:w10.cell? ⟨gb145,0,none⟩=some (.string a0_0):=(zAB BK145.out 0).trans rfl;have hcz11_1:w10.cell? ⟨gb145,1,none⟩=some (.slice A0_1 l0_1.length c0_1):=(zAB BK145.out 1).trans rfl;have hcz11_2:w10.cell? ⟨gb145,2,none⟩=some (.int .i64 a0_2):=(zAB BK145.out 2).trans rfl;have hcz11_3:w10.cell? ⟨gb145,3,none⟩=some (.slice A0_3 l0_3.length c0_3):=(zAB BK145.out 3).trans rfl;have hfz11_0:=zAA BK145.out 0;have hfz11_1:=zAA BK145.out 1;have hfz11_2:=zAA BK145.out 2;have hfz11_3:=zAA BK145.out 3)|((with_reducible refine zAd (f:=16) rfl ?_);refine goesL_ (some 8) rfl rfl Tryd.func16 (by kernel_rfl) rfl #[.agg #[.string a0_0,.slice A0_1 l0_1.length c0_1,.int .i64 a0_2,.slice A0_3 l0_3.length c0_3]] rfl aM_ ?_;(with_reducible refine (tree_Check.calls k a0_0 _ _ l0_1 a0_2 _ _ l0_3 t146 t147 _ ?side1 ?side2 ?side3 ?side4 ?side5 A2.out).mono ?_);(case side1=>(first|(with_reducible exact hG)|((repeat (with_reducible first|exact hG|apply GW.drewN|apply GW.drew|apply GW.alloc));done)|exact GW.below hG (aI_ HB.out GE145.out)));(case side2=>repeat (first|exact (Kd.C_below HR0_1.out HB.out)|(with_reducible refine Kd.C_alloc ?_ _)|(with_reducible refine Kd.C_drewN ?_ _)|(with_reducible refine Kd.C_drew ?_)));(case side3=>exact HC0_1.out);(case side4=>repeat (first|exact (Kd.C_below HR0_3.out HB.out)|(with_reducible refine Kd.C_alloc ?_ _)|(with_reducible refine Kd.C_drewN ?_ _)|(with_reducible refine Kd.C_drew ?_)));(case side5=>exact HC0_3.out);rintro e w12 ⟨rfl,hb⟩;refine ⟨_,rfl,?_⟩;have n0_:=aK_ (zAM (g:=gb145) (o:=.cells #[.string a0_0,.slice A0_1 l0_1.length c0_1,.int .i64 a0_2,.slice A0_3 l0_3.length c0_3] 25 (0,0)) (aB_ BK145.out) hb);have n1_:=aK_ (zAG (aI_ HB.out GE145.out) hb);clear BK145;clear HB;have BK145:=n0_;have HB:=n1_;clear n0_ n1_;(try clear hb);(try clear hb2);(try clear hk);(try clear hi)))
  go_ret2
  exact ⟨_,by first|rfl|(simp [zAQ,zAR] <;> rfl)|(simp [*,zAQ,zAR] <;> rfl),by first|exact Kd.R_nil _ _ _ _ _|exact Kd.N_nil _ _ _ _ _|exact Kd.V_nil _ _ _ _ _|exact Kd.Q_nil _ _ _ _ _|exact Kd.S_nil _ _ _ _ _,aI_ HB.out GE145.out⟩
 rw [if_pos c3] at H
 have c3b0:(t147 == 0)=true:=beq_iff_eq.mpr c3
 have c3b1:(t147 != 0)=false:=bne_eq_false_iff_eq.mpr c3
 clear c3
 replace H:=Option.bind_eq_some_iff.mp H
 obtain ⟨t148,A40,H⟩:=H
 replace H:(some (t148,0))=some (r1,r2):=H
 have A4:=aK_ A40
 clear A40
 simp only [Option.some.injEq,Prod.mk.injEq] at H
 obtain ⟨rfl,rfl⟩:=H
 go_enter Tryd.func23,Tryd.ntmps23
 go_wp2_with (first|((with_reducible refine zAX (N:=1) rfl ?_);refine zAW ?hg (N:=1) ?hd (cs:=#[.string a0_0,.slice A0_1 l0_1.length c0_1,.int .i64 a0_2,.slice A0_3 l0_3.length c0_3]) (t:=25) ?hr ?_;(case hd=>rfl);(case hg=>rfl);(case hr=>first|(go_simp;done)|(go_simp;rfl));intro gb145 hg w5 hbox hb;have n0_:=aK_ (zAG (aH_ HB.out) hb);have n1_:=aK_ (hbox);have n2_:=aK_ ((by rw [hg];exact (zAE (aH_ HB.out)):w.heap.size≤gb145));have n3_:=aK_ ((by rw [hg];exact (zAE (aH_ HB.out)):w.heap.size≤gb145));clear HB;have HB:=n0_;have BK145:=n1_;have GW145:=n2_;have GE145:=n3_;clear n0_ n1_ n2_ n3_;clear hb hbox hg;have hcz6_0:w5.cell? ⟨gb145,0,none⟩=some (.string a0_0):=(zAB BK145.out 0).trans rfl;have hcz6_1:w5.cell? ⟨gb145,1,none⟩=some (.slice A0_1 l0_1.length c0_1):=(zAB BK145.out 1).trans rfl;have hcz6_2:w5.cell? ⟨gb145,2,none⟩=some (.int .i64 a0_2):=(zAB BK145.out 2).trans rfl;have hcz6_3:w5.cell? ⟨gb145,3,none⟩=some (.slice A0_3 l0_3.length c0_3):=(zAB BK145.out 3).trans rfl;have hfz6_0:=zAA BK145.out 0;have hfz6_1:=zAA BK145.out 1;have hfz6_2:=zAA BK145.out 2;have hfz6_3:=zAA BK145.out 3)|((with_reducible refine zAd (f:=16) rfl ?_);refine goesL_ (some 8) rfl rfl Tryd.func16 (by kernel_rfl) rfl #[.agg #[.string a0_0,.slice A0_1 l0_1.length c0_1,.int .i64 a0_2,.slice A0_3 l0_3.length c0_3]] rfl aM_ ?_;(with_reducible refine (tree_Check.calls k a0_0 _ _ l0_1 a0_2 _ _ l0_3 t146 t147 _ ?side1 ?side2 ?side3 ?side4 ?side5 A2.out).mono ?_);(case side1=>(first|(with_reducible exact hG)|((repeat (with_reducible first|exact hG|apply GW.drewN|apply GW.drew|apply GW.alloc));done)|exact GW.below hG (aI_ HB.out GE145.out)));(case side2=>repeat (first|exact (Kd.C_below HR0_1.out HB.out)|(with_reducible refine Kd.C_alloc ?_ _)|(with_reducible refine Kd.C_drewN ?_ _)|(with_reducible refine Kd.C_drew ?_)));(case side3=>exact HC0_1.out);(case side4=>repeat (first|exact (Kd.C_below HR0_3.out HB.out)|(with_reducible refine Kd.C_alloc ?_ _)|(with_reducible refine Kd.C_drewN ?_ _)|(with_reducible refine Kd.C_drew ?_)));(case side5=>exact HC0_3.out);rintro e w7 ⟨rfl,hb⟩;refine ⟨_,rfl,?_⟩;have n0_:=aK_ (zAM (g:=gb145) (o:=.cells #[.string a0_0,.slice A0_1 l0_1.length c0_1,.int .i64 a0_2,.slice A0_3 l0_3.length c0_3] 25 (0,0)) (aB_ BK145.out) hb);have n1_:=aK_ (zAG (aI_ HB.out GE145.out) hb);clear BK145;clear HB;have BK145:=n0_;have HB:=n1_;clear n0_ n1_;(try clear hb);(try clear hb2);(try clear hk);(try clear hi);have hcz8_0:w7.cell? ⟨gb145,0,none⟩=some (.string a0_0):=(zAB BK145.out 0).trans rfl;have hcz8_1:w7.cell? ⟨gb145,1,none⟩=some (.slice A0_1 l0_1.length c0_1):=(zAB BK145.out 1).trans rfl;have hcz8_2:w7.cell? ⟨gb145,2,none⟩=some (.int .i64 a0_2):=(zAB BK145.out 2).trans rfl;have hcz8_3:w7.cell? ⟨gb145,3,none⟩=some (.slice A0_3 l0_3.length c0_3):=(zAB BK145.out 3).trans rfl;have hfz8_0:=zAA BK145.out 0;have hfz8_1:=zAA BK145.out 1;have hfz8_2:=zAA BK145.out 2;have hfz8_3:=zAA BK145.out 3)|((with_reducible refine zAd (f:=51) rfl ?_);refine goesL_ (some 15) rfl rfl Tryd.func51 (by kernel_rfl) rfl #[.agg #[.string a0_0,.slice A0_1 l0_1.length c0_1,.int .i64 a0_2,.slice A0_3 l0_3.length c0_3]] rfl aM_ ?_;(with_reducible refine (tree_firsts.calls k a0_0 _ _ l0_1 a0_2 _ _ l0_3 t148 _ ?side1 ?side2 ?side3 ?side4 ?side5 A4.out).mono ?_);(case side1=>(first|(with_reducible exact hG)|((repeat (with_reducible first|exact hG|apply GW.drewN|apply GW.drew|apply GW.alloc));done)|exact GW.below hG (aI_ HB.out GE145.out)));(case side2=>repeat (first|exact (Kd.C_below HR0_1.out HB.out)|(with_reducible refine Kd.C_alloc ?_ _)|(with_reducible refine Kd.C_drewN ?_ _)|(with_reducible refine Kd.C_drew ?_)));(case side3=>exact HC0_1.out);(case side4=>repeat (first|exact (Kd.C_below HR0_3.out HB.out)|(with_reducible refine Kd.C_alloc ?_ _)|(with_reducible refine Kd.C_drewN ?_ _)|(with_reducible refine Kd.C_drew ?_)));(case side5=>exact HC0_3.out);rintro e w9 ⟨v149,rfl,ho0,hb⟩;refine ⟨_,rfl,?_⟩;have n0_:=aK_ (Kd.R_lower ho0 (zAE (aI_ HB.out GE145.out)));have n1_:=aK_ (zAM (g:=gb145) (o:=.cells #[.string a0_0,.slice A0_1 l0_1.length c0_1,.int .i64 a0_2,.slice A0_3 l0_3.length c0_3] 25 (0,0)) (aB_ BK145.out) hb);have n2_:=aK_ (zAG (aI_ HB.out GE145.out) hb);clear BK145;clear HB;have HO150:=n0_;have BK145:=n1_;have HB:=n2_;clear n0_ n1_ n2_;(try clear hb);(try clear hb2);(try clear hk);(try clear hi);(try clear ho0)))
 go_ret2
 exact ⟨_,by first|rfl|(simp [zAQ,zAR] <;> rfl)|(simp [*,zAQ,zAR] <;> rfl),by refine aR_ ?_;exact HO150.out,aI_ HB.out GE145.out⟩
end Go.Proofs.YthbnigjckjkmnaaDoor.S

namespace Go.Proofs.YthbnigjckjkmnaaDoor.S
open Go.RowKit Go.Proofs.YthbnigjckjkmnaaDoorW.PrintWords Go.Proofs.YthbnigjckjkmnaaDoorW.PrintLast Go.Proofs.YthbnigjckjkmnaaDoorW.PrintMore
attribute [local go_sem] max2_int min2_int max_two min_two max_three min_three max_four min_four
def zAb.f (k:Nat)  : Option (Bool):=(octroilaw05_five.f).bind fun bt160=>((tree_Check.f k bt160.1 bt160.2.1 bt160.2.2.1 bt160.2.2.2).bind fun bt169=>((tree_Firsts.f k bt160.1 bt160.2.1 bt160.2.2.1 bt160.2.2.2).bind fun bt171=>((tree_Check.f k (⟨#[112,108,97,110]⟩:ByteArray) ([]:List (S47)) 0 ([]:List (S33))).bind fun bt175=>(if bt169.1=0 then (if bt169.2=0 then (if bt171.2=0 then ((zAY.f k bt171.1 (([0,1,0,3,0]:List Int))).bind fun t180=>(if t180=true then (if bt175.2=61 then ((tree_Same.f k bt160.1 bt160.2.1 bt160.2.2.1 bt160.2.2.2 bt160.1 bt160.2.1 bt160.2.2.1 bt160.2.2.2).bind fun t181=>(some t181)) else (some false)) else (some false))) else (some false)) else (some false)) else (some false)))))
theorem zAb.mono:∀ k,LeO (zAb.f k ) (zAb.f (k+1) ):=by
 intro  k
 unfold zAb.f
 repeat' first
   |(with_reducible exact zAY.mono _ _ _)
   |(with_reducible exact tree_Check.mono _ _ _ _ _)
   |(with_reducible exact tree_Firsts.mono _ _ _ _ _)
   |(with_reducible exact tree_Same.mono _ _ _ _ _ _ _ _ _)
   |(with_reducible exact LeO.refl _)
   |(with_reducible exact LeO.none _)
   |(with_reducible refine LeO.ite ?_ ?_)
   |(with_reducible refine LeO.bind ?_ (fun _=>?_))
   |exact zAY.mono _ _ _
   |exact tree_Check.mono _ _ _ _ _
   |exact tree_Firsts.mono _ _ _ _ _
   |exact tree_Same.mono _ _ _ _ _ _ _ _ _
   |exact LeO.none _
   |refine LeO.ite ?_ ?_
   |refine LeO.bind ?_ (fun _=>?_)
set_option maxHeartbeats 8000000 in
set_option maxRecDepth 100000 in
theorem zAb.calls (k:Nat)  (r:Bool) (w:World) (hG:GW w) (h:zAb.f k  = some r) :
  Calls Tryd.prog 15 #[] w fun e w'=>e = .returned (.bool r)∧Below w.heap.size w w':=by
 have hu25:=Tryd.underlying25
 have HB:=aK_ (Below.refl w.heap.size w)
 have H:((octroilaw05_five.f).bind fun bt160=>((tree_Check.f k bt160.1 bt160.2.1 bt160.2.2.1 bt160.2.2.2).bind fun bt169=>((tree_Firsts.f k bt160.1 bt160.2.1 bt160.2.2.1 bt160.2.2.2).bind fun bt171=>((tree_Check.f k (⟨#[112,108,97,110]⟩:ByteArray) ([]:List (S47)) 0 ([]:List (S33))).bind fun bt175=>(if bt169.1=0 then (if bt169.2=0 then (if bt171.2=0 then ((zAY.f k bt171.1 (([0,1,0,3,0]:List Int))).bind fun t180=>(if t180=true then (if bt175.2=61 then ((tree_Same.f k bt160.1 bt160.2.1 bt160.2.2.1 bt160.2.2.2 bt160.1 bt160.2.1 bt160.2.2.1 bt160.2.2.2).bind fun t181=>(some t181)) else (some false)) else (some false))) else (some false)) else (some false)) else (some false))))))=some r:=h
 clear h
 replace H:=Option.bind_eq_some_iff.mp H
 obtain ⟨⟨t160,t161,t164,t165⟩,A10,H⟩:=H
 replace H:((tree_Check.f k t160 t161 t164 t165).bind fun bt169=>((tree_Firsts.f k t160 t161 t164 t165).bind fun bt171=>((tree_Check.f k (⟨#[112,108,97,110]⟩:ByteArray) ([]:List (S47)) 0 ([]:List (S33))).bind fun bt175=>(if bt169.1=0 then (if bt169.2=0 then (if bt171.2=0 then ((zAY.f k bt171.1 (([0,1,0,3,0]:List Int))).bind fun t180=>(if t180=true then (if bt175.2=61 then ((tree_Same.f k t160 t161 t164 t165 t160 t161 t164 t165).bind fun t181=>(some t181)) else (some false)) else (some false))) else (some false)) else (some false)) else (some false)))))=some r:=H
 have A1:=aK_ A10
 clear A10
 replace H:=Option.bind_eq_some_iff.mp H
 obtain ⟨⟨t169,t170⟩,A20,H⟩:=H
 replace H:((tree_Firsts.f k t160 t161 t164 t165).bind fun bt171=>((tree_Check.f k (⟨#[112,108,97,110]⟩:ByteArray) ([]:List (S47)) 0 ([]:List (S33))).bind fun bt175=>(if t169=0 then (if t170=0 then (if bt171.2=0 then ((zAY.f k bt171.1 (([0,1,0,3,0]:List Int))).bind fun t180=>(if t180=true then (if bt175.2=61 then ((tree_Same.f k t160 t161 t164 t165 t160 t161 t164 t165).bind fun t181=>(some t181)) else (some false)) else (some false))) else (some false)) else (some false)) else (some false))))=some r:=H
 have A2:=aK_ A20
 clear A20
 replace H:=Option.bind_eq_some_iff.mp H
 obtain ⟨⟨t171,t174⟩,A30,H⟩:=H
 replace H:((tree_Check.f k (⟨#[112,108,97,110]⟩:ByteArray) ([]:List (S47)) 0 ([]:List (S33))).bind fun bt175=>(if t169=0 then (if t170=0 then (if t174=0 then ((zAY.f k t171 (([0,1,0,3,0]:List Int))).bind fun t180=>(if t180=true then (if bt175.2=61 then ((tree_Same.f k t160 t161 t164 t165 t160 t161 t164 t165).bind fun t181=>(some t181)) else (some false)) else (some false))) else (some false)) else (some false)) else (some false)))=some r:=H
 have A3:=aK_ A30
 clear A30
 replace H:=Option.bind_eq_some_iff.mp H
 obtain ⟨⟨t175,t176⟩,A40,H⟩:=H
 replace H:(if t169=0 then (if t170=0 then (if t174=0 then ((zAY.f k t171 (([0,1,0,3,0]:List Int))).bind fun t180=>(if t180=true then (if t176=61 then ((tree_Same.f k t160 t161 t164 t165 t160 t161 t164 t165).bind fun t181=>(some t181)) else (some false)) else (some false))) else (some false)) else (some false)) else (some false))=some r:=H
 have A4:=aK_ A40
 clear A40
 by_cases c5:t169=0
 rotate_left
 ·rw [if_neg c5] at H
  have c5b0:(t169 == 0)=false:=beq_eq_false_iff_ne.mpr c5
  have c5b1:(t169 != 0)=true:=bne_iff_ne.mpr c5
  obtain rfl:=Option.some.inj H
  go_enter Tryd.func15,Tryd.ntmps15
  go_wp2_with (first|((with_reducible refine zAd (f:=36) rfl ?_);refine goesL_ (some 8) rfl rfl Tryd.func36 (by kernel_rfl) rfl #[] rfl aM_ ?_;(with_reducible refine (octroilaw05_five.calls  t160 t161 t164 t165 _ A1.out).mono ?_);rintro e w71 ⟨v162,v166,rfl,ho0,ho1,hb⟩;refine ⟨_,rfl,?_⟩;have n0_:=aK_ (Kd.R_lower ho0 (zAE (aH_ HB.out)));have n1_:=aK_ (Kd.S_lower ho1 (zAE (aH_ HB.out)));have n2_:=aK_ (zAG (aH_ HB.out) hb);clear HB;have HO163:=n0_;have HO167:=n1_;have HB:=n2_;clear n0_ n1_ n2_;(try clear hb);(try clear hb2);(try clear hk);(try clear hi);(try clear ho0);(try clear ho1))|((with_reducible refine zAX (N:=1) rfl ?_);(try (refine zAZ (by rfl) ?_;dsimp only));refine zAW ?hg (N:=1) ?hd (cs:=#[.string (⟨#[]⟩:ByteArray),.slice none 0 0,.int .i64 0,.slice none 0 0]) (t:=25) ?hr ?_;(case hd=>rfl);(case hg=>rfl);(case hr=>first|(go_simp;done)|(go_simp;rfl));intro gb168 hg w72 hbox hb;have n0_:=aK_ (Kd.R_below (aR_ HO163.out) hb);have n1_:=aK_ (Kd.S_below (aS_ HO167.out) hb);have n2_:=aK_ (zAG (aH_ HB.out) hb);have n3_:=aK_ (hbox);have n4_:=aK_ ((by rw [hg];exact (zAE (aH_ HB.out)):w.heap.size≤gb168));have n5_:=aK_ ((by rw [hg];exact (zAE (aH_ HB.out)):w.heap.size≤gb168));clear HO163;clear HO167;clear HB;have HO163:=n0_;have HO167:=n1_;have HB:=n2_;have BK168:=n3_;have GW168:=n4_;have GE168:=n5_;clear n0_ n1_ n2_ n3_ n4_ n5_;clear hb hbox hg;have hcz73_0:w72.cell? ⟨gb168,0,none⟩=some (.string (⟨#[]⟩:ByteArray)):=(zAB BK168.out 0).trans rfl;have hcz73_1:w72.cell? ⟨gb168,1,none⟩=some (.slice none 0 0):=(zAB BK168.out 1).trans rfl;have hcz73_2:w72.cell? ⟨gb168,2,none⟩=some (.int .i64 0):=(zAB BK168.out 2).trans rfl;have hcz73_3:w72.cell? ⟨gb168,3,none⟩=some (.slice none 0 0):=(zAB BK168.out 3).trans rfl;have hfz73_0:=zAA BK168.out 0;have hfz73_1:=zAA BK168.out 1;have hfz73_2:=zAA BK168.out 2;have hfz73_3:=zAA BK168.out 3;obtain ⟨Ao74,co74,eo74⟩:=Kd.R_slice HO163.out;subst eo74;obtain ⟨Ao75,co75,eo75⟩:=Kd.S_slice HO167.out;subst eo75)|((with_reducible refine zAd (f:=16) rfl ?_);refine goesL_ (some 11) rfl rfl Tryd.func16 (by kernel_rfl) rfl #[.agg #[.string t160,.slice Ao74 t161.length co74,.int .i64 t164,.slice Ao75 t165.length co75]] rfl aM_ ?_;(with_reducible refine (tree_Check.calls k t160 _ _ t161 t164 _ _ t165 t169 t170 _ ?side1 ?side2 ?side3 ?side4 ?side5 A2.out).mono ?_);(case side1=>(first|(with_reducible exact hG)|((repeat (with_reducible first|exact hG|apply GW.drewN|apply GW.drew|apply GW.alloc));done)|exact GW.below hG (aI_ HB.out GE168.out)));(case side2=>refine (Kd.R_reads' (e:=47) (base:=w.heap.size) (ok:=fun k_=>True) (n:=t161.length) (c:=co74) ?_).2.2;exact (by refine aR_ ?_;exact (Kd.R_mono (Kd.R_far (p:=⟨gb168,3,none⟩) (Kd.R_far (p:=⟨gb168,2,none⟩) (Kd.R_far (p:=⟨gb168,1,none⟩) (Kd.R_far (p:=⟨gb168,0,none⟩) (Kd.R_types HO163.out BK168.out (by decide)) (fun _ hk=>hk.2) (.string t160)) (fun _ hk=>hk.2) (.slice Ao74 t161.length co74)) (fun _ hk=>hk.2) (.int .i64 t164)) (fun _ hk=>hk.2) (.slice Ao75 t165.length co75)) (fun _ h_=>h_.1))));(case side3=>exact (Kd.R_reads' HO163.out).2.1);(case side4=>refine (Kd.S_reads' (e:=33) (base:=w.heap.size) (ok:=fun k_=>True) (n:=t165.length) (c:=co75) ?_).2.2;exact (by refine aS_ ?_;exact (Kd.S_mono (Kd.S_far (p:=⟨gb168,3,none⟩) (Kd.S_far (p:=⟨gb168,2,none⟩) (Kd.S_far (p:=⟨gb168,1,none⟩) (Kd.S_far (p:=⟨gb168,0,none⟩) (Kd.S_types HO167.out BK168.out (by decide)) (fun _ hk=>hk.2) (.string t160)) (fun _ hk=>hk.2) (.slice Ao74 t161.length co74)) (fun _ hk=>hk.2) (.int .i64 t164)) (fun _ hk=>hk.2) (.slice Ao75 t165.length co75)) (fun _ h_=>h_.1))));(case side5=>exact (Kd.S_reads' HO167.out).2.1);rintro e w76 ⟨rfl,hb⟩;refine ⟨_,rfl,?_⟩;have n0_:=aK_ (Kd.R_below (by refine aR_ ?_;exact (Kd.R_mono (Kd.R_far (p:=⟨gb168,3,none⟩) (Kd.R_far (p:=⟨gb168,2,none⟩) (Kd.R_far (p:=⟨gb168,1,none⟩) (Kd.R_far (p:=⟨gb168,0,none⟩) (Kd.R_types HO163.out BK168.out (by decide)) (fun _ hk=>hk.2) (.string t160)) (fun _ hk=>hk.2) (.slice Ao74 t161.length co74)) (fun _ hk=>hk.2) (.int .i64 t164)) (fun _ hk=>hk.2) (.slice Ao75 t165.length co75)) (fun _ h_=>h_.1))) hb);have n1_:=aK_ (Kd.S_below (by refine aS_ ?_;exact (Kd.S_mono (Kd.S_far (p:=⟨gb168,3,none⟩) (Kd.S_far (p:=⟨gb168,2,none⟩) (Kd.S_far (p:=⟨gb168,1,none⟩) (Kd.S_far (p:=⟨gb168,0,none⟩) (Kd.S_types HO167.out BK168.out (by decide)) (fun _ hk=>hk.2) (.string t160)) (fun _ hk=>hk.2) (.slice Ao74 t161.length co74)) (fun _ hk=>hk.2) (.int .i64 t164)) (fun _ hk=>hk.2) (.slice Ao75 t165.length co75)) (fun _ h_=>h_.1))) hb);have n2_:=aK_ (zAM (g:=gb168) (o:=.cells #[.string t160,.slice Ao74 t161.length co74,.int .i64 t164,.slice Ao75 t165.length co75] 25 (0,0)) (by refine aB_ ?_;refine zAa (cs:=#[.string t160,.slice Ao74 t161.length co74,.int .i64 t164,.slice none 0 0]) ?_ 3 _ rfl;refine aB_ ?_;refine zAa (cs:=#[.string t160,.slice Ao74 t161.length co74,.int .i64 0,.slice none 0 0]) ?_ 2 _ rfl;refine aB_ ?_;refine zAa (cs:=#[.string t160,.slice none 0 0,.int .i64 0,.slice none 0 0]) ?_ 1 _ rfl;refine aB_ ?_;refine zAa (cs:=#[.string (⟨#[]⟩:ByteArray),.slice none 0 0,.int .i64 0,.slice none 0 0]) ?_ 0 _ rfl;refine aB_ ?_;exact BK168.out) hb);have n3_:=aK_ (zAG (aI_ HB.out GE168.out) hb);clear HO163;clear HO167;clear BK168;clear HB;have HO163:=n0_;have HO167:=n1_;have BK168:=n2_;have HB:=n3_;clear n0_ n1_ n2_ n3_;(try clear hb);(try clear hb2);(try clear hk);(try clear hi);have hcz77_0:w76.cell? ⟨gb168,0,none⟩=some (.string t160):=(zAB BK168.out 0).trans rfl;have hcz77_1:w76.cell? ⟨gb168,1,none⟩=some (.slice Ao74 t161.length co74):=(zAB BK168.out 1).trans rfl;have hcz77_2:w76.cell? ⟨gb168,2,none⟩=some (.int .i64 t164):=(zAB BK168.out 2).trans rfl;have hcz77_3:w76.cell? ⟨gb168,3,none⟩=some (.slice Ao75 t165.length co75):=(zAB BK168.out 3).trans rfl;have hfz77_0:=zAA BK168.out 0;have hfz77_1:=zAA BK168.out 1;have hfz77_2:=zAA BK168.out 2;have hfz77_3:=zAA BK168.out 3)|((with_reducible refine zAd (f:=23) rfl ?_);refine goesL_ (some 16) rfl rfl Tryd.func23 (by kernel_rfl) rfl #[.agg #[.string t160,.slice Ao74 t161.length co74,.int .i64 t164,.slice Ao75 t165.length co75]] rfl aM_ ?_;(with_reducible refine (tree_Firsts.calls k t160 _ _ t161 t164 _ _ t165 t171 t174 _ ?side1 ?side2 ?side3 ?side4 ?side5 A3.out).mono ?_);(case side1=>(first|(with_reducible exact hG)|((repeat (with_reducible first|exact hG|apply GW.drewN|apply GW.drew|apply GW.alloc));done)|exact GW.below hG (aI_ HB.out GE168.out)));(case side2=>repeat (first|exact (Kd.R_reads' HO163.out).2.2|(with_reducible refine Kd.C_alloc ?_ _)|(with_reducible refine Kd.C_drewN ?_ _)|(with_reducible refine Kd.C_drew ?_)));(case side3=>exact (Kd.R_reads' HO163.out).2.1);(case side4=>repeat (first|exact (Kd.S_reads' HO167.out).2.2|(with_reducible refine Kd.C_alloc ?_ _)|(with_reducible refine Kd.C_drewN ?_ _)|(with_reducible refine Kd.C_drew ?_)));(case side5=>exact (Kd.S_reads' HO167.out).2.1);rintro e w78 ⟨v172,rfl,ho0,hb⟩;refine ⟨_,rfl,?_⟩;have n0_:=aK_ (Kd.R_below (aR_ HO163.out) hb);have n1_:=aK_ (Kd.S_below (aS_ HO167.out) hb);have n2_:=aK_ (Kd.R_lower ho0 (zAE (aI_ HB.out GE168.out)));have n3_:=aK_ (zAM (g:=gb168) (o:=.cells #[.string t160,.slice Ao74 t161.length co74,.int .i64 t164,.slice Ao75 t165.length co75] 25 (0,0)) (aB_ BK168.out) hb);have n4_:=aK_ (zAG (aI_ HB.out GE168.out) hb);clear HO163;clear HO167;clear BK168;clear HB;have HO163:=n0_;have HO167:=n1_;have HO173:=n2_;have BK168:=n3_;have HB:=n4_;clear n0_ n1_ n2_ n3_ n4_;(try clear hb);(try clear hb2);(try clear hk);(try clear hi);(try clear ho0))|((with_reducible refine zAd (f:=16) rfl ?_);refine goesL_ (some 21) rfl rfl Tryd.func16 (by kernel_rfl) rfl #[.agg #[.string (⟨#[112,108,97,110]⟩:ByteArray),.slice none 0 0,.int .i64 0,.slice none 0 0]] rfl aM_ ?_;(refine (tree_Check.calls k (⟨#[112,108,97,110]⟩:ByteArray) _ _ ([]:List (S47)) 0 _ _ ([]:List (S33)) t175 t176 _ ?side1 ?side2 ?side3 ?side4 ?side5 A4.out).mono ?_);(case side1=>(first|(with_reducible exact hG)|((repeat (with_reducible first|exact hG|apply GW.drewN|apply GW.drew|apply GW.alloc));done)|exact GW.below hG (aI_ HB.out GE168.out)));(case side2=>exact Kd.C_nil _ _);(case side3=>exact Nat.le_refl _);(case side4=>exact Kd.C_nil _ _);(case side5=>exact Nat.le_refl _);rintro e w79 ⟨rfl,hb⟩;refine ⟨_,rfl,?_⟩;have n0_:=aK_ (Kd.R_below (aR_ HO163.out) hb);have n1_:=aK_ (Kd.S_below (aS_ HO167.out) hb);have n2_:=aK_ (Kd.R_below (aR_ HO173.out) hb);have n3_:=aK_ (zAM (g:=gb168) (o:=.cells #[.string t160,.slice Ao74 t161.length co74,.int .i64 t164,.slice Ao75 t165.length co75] 25 (0,0)) (aB_ BK168.out) hb);have n4_:=aK_ (zAG (aI_ HB.out GE168.out) hb);clear HO163;clear HO167;clear HO173;clear BK168;clear HB;have HO163:=n0_;have HO167:=n1_;have HO173:=n2_;have BK168:=n3_;have HB:=n4_;clear n0_ n1_ n2_ n3_ n4_;(try clear hb);(try clear hb2);(try clear hk);(try clear hi)))
  go_ret
  exact ⟨by first|rfl|(simp [zAQ,zAR] <;> rfl)|(simp [*,zAQ,zAR] <;> rfl),aI_ HB.out GE168.out⟩
 rw [if_pos c5] at H
 have c5b0:(t169 == 0)=true:=beq_iff_eq.mpr c5
 have c5b1:(t169 != 0)=false:=bne_eq_false_iff_eq.mpr c5
 clear c5
 by_cases c6:t170=0
 rotate_left
 ·rw [if_neg c6] at H
  have c6b0:(t170 == 0)=false:=beq_eq_false_iff_ne.mpr c6
  have c6b1:(t170 != 0)=true:=bne_iff_ne.mpr c6
  obtain rfl:=Option.some.inj H
  go_enter Tryd.func15,Tryd.ntmps15
  go_wp2_with (first|((with_reducible refine zAd (f:=36) rfl ?_);refine goesL_ (some 8) rfl rfl Tryd.func36 (by kernel_rfl) rfl #[] rfl aM_ ?_;(with_reducible refine (octroilaw05_five.calls  t160 t161 t164 t165 _ A1.out).mono ?_);rintro e w62 ⟨v162,v166,rfl,ho0,ho1,hb⟩;refine ⟨_,rfl,?_⟩;have n0_:=aK_ (Kd.R_lower ho0 (zAE (aH_ HB.out)));have n1_:=aK_ (Kd.S_lower ho1 (zAE (aH_ HB.out)));have n2_:=aK_ (zAG (aH_ HB.out) hb);clear HB;have HO163:=n0_;have HO167:=n1_;have HB:=n2_;clear n0_ n1_ n2_;(try clear hb);(try clear hb2);(try clear hk);(try clear hi);(try clear ho0);(try clear ho1))|((with_reducible refine zAX (N:=1) rfl ?_);(try (refine zAZ (by rfl) ?_;dsimp only));refine zAW ?hg (N:=1) ?hd (cs:=#[.string (⟨#[]⟩:ByteArray),.slice none 0 0,.int .i64 0,.slice none 0 0]) (t:=25) ?hr ?_;(case hd=>rfl);(case hg=>rfl);(case hr=>first|(go_simp;done)|(go_simp;rfl));intro gb168 hg w63 hbox hb;have n0_:=aK_ (Kd.R_below (aR_ HO163.out) hb);have n1_:=aK_ (Kd.S_below (aS_ HO167.out) hb);have n2_:=aK_ (zAG (aH_ HB.out) hb);have n3_:=aK_ (hbox);have n4_:=aK_ ((by rw [hg];exact (zAE (aH_ HB.out)):w.heap.size≤gb168));have n5_:=aK_ ((by rw [hg];exact (zAE (aH_ HB.out)):w.heap.size≤gb168));clear HO163;clear HO167;clear HB;have HO163:=n0_;have HO167:=n1_;have HB:=n2_;have BK168:=n3_;have GW168:=n4_;have GE168:=n5_;clear n0_ n1_ n2_ n3_ n4_ n5_;clear hb hbox hg;have hcz64_0:w63.cell? ⟨gb168,0,none⟩=some (.string (⟨#[]⟩:ByteArray)):=(zAB BK168.out 0).trans rfl;have hcz64_1:w63.cell? ⟨gb168,1,none⟩=some (.slice none 0 0):=(zAB BK168.out 1).trans rfl;have hcz64_2:w63.cell? ⟨gb168,2,none⟩=some (.int .i64 0):=(zAB BK168.out 2).trans rfl;have hcz64_3:w63.cell? ⟨gb168,3,none⟩=some (.slice none 0 0):=(zAB BK168.out 3).trans rfl;have hfz64_0:=zAA BK168.out 0;have hfz64_1:=zAA BK168.out 1;have hfz64_2:=zAA BK168.out 2;have hfz64_3:=zAA BK168.out 3;obtain ⟨Ao65,co65,eo65⟩:=Kd.R_slice HO163.out;subst eo65;obtain ⟨Ao66,co66,eo66⟩:=Kd.S_slice HO167.out;subst eo66)|((with_reducible refine zAd (f:=16) rfl ?_);refine goesL_ (some 11) rfl rfl Tryd.func16 (by kernel_rfl) rfl #[.agg #[.string t160,.slice Ao65 t161.length co65,.int .i64 t164,.slice Ao66 t165.length co66]] rfl aM_ ?_;(with_reducible refine (tree_Check.calls k t160 _ _ t161 t164 _ _ t165 t169 t170 _ ?side1 ?side2 ?side3 ?side4 ?side5 A2.out).mono ?_);(case side1=>(first|(with_reducible exact hG)|((repeat (with_reducible first|exact hG|apply GW.drewN|apply GW.drew|apply GW.alloc));done)|exact GW.below hG (aI_ HB.out GE168.out)));(case side2=>refine (Kd.R_reads' (e:=47) (base:=w.heap.size) (ok:=fun k_=>True) (n:=t161.length) (c:=co65) ?_).2.2;exact (by refine aR_ ?_;exact (Kd.R_mono (Kd.R_far (p:=⟨gb168,3,none⟩) (Kd.R_far (p:=⟨gb168,2,none⟩) (Kd.R_far (p:=⟨gb168,1,none⟩) (Kd.R_far (p:=⟨gb168,0,none⟩) (Kd.R_types HO163.out BK168.out (by decide)) (fun _ hk=>hk.2) (.string t160)) (fun _ hk=>hk.2) (.slice Ao65 t161.length co65)) (fun _ hk=>hk.2) (.int .i64 t164)) (fun _ hk=>hk.2) (.slice Ao66 t165.length co66)) (fun _ h_=>h_.1))));(case side3=>exact (Kd.R_reads' HO163.out).2.1);(case side4=>refine (Kd.S_reads' (e:=33) (base:=w.heap.size) (ok:=fun k_=>True) (n:=t165.length) (c:=co66) ?_).2.2;exact (by refine aS_ ?_;exact (Kd.S_mono (Kd.S_far (p:=⟨gb168,3,none⟩) (Kd.S_far (p:=⟨gb168,2,none⟩) (Kd.S_far (p:=⟨gb168,1,none⟩) (Kd.S_far (p:=⟨gb168,0,none⟩) (Kd.S_types HO167.out BK168.out (by decide)) (fun _ hk=>hk.2) (.string t160)) (fun _ hk=>hk.2) (.slice Ao65 t161.length co65)) (fun _ hk=>hk.2) (.int .i64 t164)) (fun _ hk=>hk.2) (.slice Ao66 t165.length co66)) (fun _ h_=>h_.1))));(case side5=>exact (Kd.S_reads' HO167.out).2.1);rintro e w67 ⟨rfl,hb⟩;refine ⟨_,rfl,?_⟩;have n0_:=aK_ (Kd.R_below (by refine aR_ ?_;exact (Kd.R_mono (Kd.R_far (p:=⟨gb168,3,none⟩) (Kd.R_far (p:=⟨gb168,2,none⟩) (Kd.R_far (p:=⟨gb168,1,none⟩) (Kd.R_far (p:=⟨gb168,0,none⟩) (Kd.R_types HO163.out BK168.out (by decide)) (fun _ hk=>hk.2) (.string t160)) (fun _ hk=>hk.2) (.slice Ao65 t161.length co65)) (fun _ hk=>hk.2) (.int .i64 t164)) (fun _ hk=>hk.2) (.slice Ao66 t165.length co66)) (fun _ h_=>h_.1))) hb);have n1_:=aK_ (Kd.S_below (by refine aS_ ?_;exact (Kd.S_mono (Kd.S_far (p:=⟨gb168,3,none⟩) (Kd.S_far (p:=⟨gb168,2,none⟩) (Kd.S_far (p:=⟨gb168,1,none⟩) (Kd.S_far (p:=⟨gb168,0,none⟩) (Kd.S_types HO167.out BK168.out (by decide)) (fun _ hk=>hk.2) (.string t160)) (fun _ hk=>hk.2) (.slice Ao65 t161.length co65)) (fun _ hk=>hk.2) (.int .i64 t164)) (fun _ hk=>hk.2) (.slice Ao66 t165.length co66)) (fun _ h_=>h_.1))) hb);have n2_:=aK_ (zAM (g:=gb168) (o:=.cells #[.string t160,.slice Ao65 t161.length co65,.int .i64 t164,.slice Ao66 t165.length co66] 25 (0,0)) (by refine aB_ ?_;refine zAa (cs:=#[.string t160,.slice Ao65 t161.length co65,.int .i64 t164,.slice none 0 0]) ?_ 3 _ rfl;refine aB_ ?_;refine zAa (cs:=#[.string t160,.slice Ao65 t161.length co65,.int .i64 0,.slice none 0 0]) ?_ 2 _ rfl;refine aB_ ?_;refine zAa (cs:=#[.string t160,.slice none 0 0,.int .i64 0,.slice none 0 0]) ?_ 1 _ rfl;refine aB_ ?_;refine zAa (cs:=#[.string (⟨#[]⟩:ByteArray),.slice none 0 0,.int .i64 0,.slice none 0 0]) ?_ 0 _ rfl;refine aB_ ?_;exact BK168.out) hb);have n3_:=aK_ (zAG (aI_ HB.out GE168.out) hb);clear HO163;clear HO167;clear BK168;clear HB;have HO163:=n0_;have HO167:=n1_;have BK168:=n2_;have HB:=n3_;clear n0_ n1_ n2_ n3_;(try clear hb);(try clear hb2);(try clear hk);(try clear hi);have hcz68_0:w67.cell? ⟨gb168,0,none⟩=some (.string t160):=(zAB BK168.out 0).trans rfl;have hcz68_1:w67.cell? ⟨gb168,1,none⟩=some (.slice Ao65 t161.length co65):=(zAB BK168.out 1).trans rfl;have hcz68_2:w67.cell? ⟨gb168,2,none⟩=some (.int .i64 t164):=(zAB BK168.out 2).trans rfl;have hcz68_3:w67.cell? ⟨gb168,3,none⟩=some (.slice Ao66 t165.length co66):=(zAB BK168.out 3).trans rfl;have hfz68_0:=zAA BK168.out 0;have hfz68_1:=zAA BK168.out 1;have hfz68_2:=zAA BK168.out 2;have hfz68_3:=zAA BK168.out 3)|((with_reducible refine zAd (f:=23) rfl ?_);refine goesL_ (some 16) rfl rfl Tryd.func23 (by kernel_rfl) rfl #[.agg #[.string t160,.slice Ao65 t161.length co65,.int .i64 t164,.slice Ao66 t165.length co66]] rfl aM_ ?_;(with_reducible refine (tree_Firsts.calls k t160 _ _ t161 t164 _ _ t165 t171 t174 _ ?side1 ?side2 ?side3 ?side4 ?side5 A3.out).mono ?_);(case side1=>(first|(with_reducible exact hG)|((repeat (with_reducible first|exact hG|apply GW.drewN|apply GW.drew|apply GW.alloc));done)|exact GW.below hG (aI_ HB.out GE168.out)));(case side2=>repeat (first|exact (Kd.R_reads' HO163.out).2.2|(with_reducible refine Kd.C_alloc ?_ _)|(with_reducible refine Kd.C_drewN ?_ _)|(with_reducible refine Kd.C_drew ?_)));(case side3=>exact (Kd.R_reads' HO163.out).2.1);(case side4=>repeat (first|exact (Kd.S_reads' HO167.out).2.2|(with_reducible refine Kd.C_alloc ?_ _)|(with_reducible refine Kd.C_drewN ?_ _)|(with_reducible refine Kd.C_drew ?_)));(case side5=>exact (Kd.S_reads' HO167.out).2.1);rintro e w69 ⟨v172,rfl,ho0,hb⟩;refine ⟨_,rfl,?_⟩;have n0_:=aK_ (Kd.R_below (aR_ HO163.out) hb);have n1_:=aK_ (Kd.S_below (aS_ HO167.out) hb);have n2_:=aK_ (Kd.R_lower ho0 (zAE (aI_ HB.out GE168.out)));have n3_:=aK_ (zAM (g:=gb168) (o:=.cells #[.string t160,.slice Ao65 t161.length co65,.int .i64 t164,.slice Ao66 t165.length co66] 25 (0,0)) (aB_ BK168.out) hb);have n4_:=aK_ (zAG (aI_ HB.out GE168.out) hb);clear HO163;clear HO167;clear BK168;clear HB;have HO163:=n0_;have HO167:=n1_;have HO173:=n2_;have BK168:=n3_;have HB:=n4_;clear n0_ n1_ n2_ n3_ n4_;(try clear hb);(try clear hb2);(try clear hk);(try clear hi);(try clear ho0))|((with_reducible refine zAd (f:=16) rfl ?_);refine goesL_ (some 21) rfl rfl Tryd.func16 (by kernel_rfl) rfl #[.agg #[.string (⟨#[112,108,97,110]⟩:ByteArray),.slice none 0 0,.int .i64 0,.slice none 0 0]] rfl aM_ ?_;(refine (tree_Check.calls k (⟨#[112,108,97,110]⟩:ByteArray) _ _ ([]:List (S47)) 0 _ _ ([]:List (S33)) t175 t176 _ ?side1 ?side2 ?side3 ?side4 ?side5 A4.out).mono ?_);(case side1=>(first|(with_reducible exact hG)|((repeat (with_reducible first|exact hG|apply GW.drewN|apply GW.drew|apply GW.alloc));done)|exact GW.below hG (aI_ HB.out GE168.out)));(case side2=>exact Kd.C_nil _ _);(case side3=>exact Nat.le_refl _);(case side4=>exact Kd.C_nil _ _);(case side5=>exact Nat.le_refl _);rintro e w70 ⟨rfl,hb⟩;refine ⟨_,rfl,?_⟩;have n0_:=aK_ (Kd.R_below (aR_ HO163.out) hb);have n1_:=aK_ (Kd.S_below (aS_ HO167.out) hb);have n2_:=aK_ (Kd.R_below (aR_ HO173.out) hb);have n3_:=aK_ (zAM (g:=gb168) (o:=.cells #[.string t160,.slice Ao65 t161.length co65,.int .i64 t164,.slice Ao66 t165.length co66] 25 (0,0)) (aB_ BK168.out) hb);have n4_:=aK_ (zAG (aI_ HB.out GE168.out) hb);clear HO163;clear HO167;clear HO173;clear BK168;clear HB;have HO163:=n0_;have HO167:=n1_;have HO173:=n2_;have BK168:=n3_;have HB:=n4_;clear n0_ n1_ n2_ n3_ n4_;(try clear hb);(try clear hb2);(try clear hk);(try clear hi)))
  go_ret
  exact ⟨by first|rfl|(simp [zAQ,zAR] <;> rfl)|(simp [*,zAQ,zAR] <;> rfl),aI_ HB.out GE168.out⟩
 rw [if_pos c6] at H
 have c6b0:(t170 == 0)=true:=beq_iff_eq.mpr c6
 have c6b1:(t170 != 0)=false:=bne_eq_false_iff_eq.mpr c6
 clear c6
 by_cases c7:t174=0
 rotate_left
 ·rw [if_neg c7] at H
  have c7b0:(t174 == 0)=false:=beq_eq_false_iff_ne.mpr c7
  have c7b1:(t174 != 0)=true:=bne_iff_ne.mpr c7
  obtain rfl:=Option.some.inj H
  go_enter Tryd.func15,Tryd.ntmps15
  go_wp2_with (first|((with_reducible refine zAd (f:=36) rfl ?_);refine goesL_ (some 8) rfl rfl Tryd.func36 (by kernel_rfl) rfl #[] rfl aM_ ?_;(with_reducible refine (octroilaw05_five.calls  t160 t161 t164 t165 _ A1.out).mono ?_);rintro e w53 ⟨v162,v166,rfl,ho0,ho1,hb⟩;refine ⟨_,rfl,?_⟩;have n0_:=aK_ (Kd.R_lower ho0 (zAE (aH_ HB.out)));have n1_:=aK_ (Kd.S_lower ho1 (zAE (aH_ HB.out)));have n2_:=aK_ (zAG (aH_ HB.out) hb);clear HB;have HO163:=n0_;have HO167:=n1_;have HB:=n2_;clear n0_ n1_ n2_;(try clear hb);(try clear hb2);(try clear hk);(try clear hi);(try clear ho0);(try clear ho1))|((with_reducible refine zAX (N:=1) rfl ?_);(try (refine zAZ (by rfl) ?_;dsimp only));refine zAW ?hg (N:=1) ?hd (cs:=#[.string (⟨#[]⟩:ByteArray),.slice none 0 0,.int .i64 0,.slice none 0 0]) (t:=25) ?hr ?_;(case hd=>rfl);(case hg=>rfl);(case hr=>first|(go_simp;done)|(go_simp;rfl));intro gb168 hg w54 hbox hb;have n0_:=aK_ (Kd.R_below (aR_ HO163.out) hb);have n1_:=aK_ (Kd.S_below (aS_ HO167.out) hb);have n2_:=aK_ (zAG (aH_ HB.out) hb);have n3_:=aK_ (hbox);have n4_:=aK_ ((by rw [hg];exact (zAE (aH_ HB.out)):w.heap.size≤gb168));have n5_:=aK_ ((by rw [hg];exact (zAE (aH_ HB.out)):w.heap.size≤gb168));clear HO163;clear HO167;clear HB;have HO163:=n0_;have HO167:=n1_;have HB:=n2_;have BK168:=n3_;have GW168:=n4_;have GE168:=n5_;clear n0_ n1_ n2_ n3_ n4_ n5_;clear hb hbox hg;have hcz55_0:w54.cell? ⟨gb168,0,none⟩=some (.string (⟨#[]⟩:ByteArray)):=(zAB BK168.out 0).trans rfl;have hcz55_1:w54.cell? ⟨gb168,1,none⟩=some (.slice none 0 0):=(zAB BK168.out 1).trans rfl;have hcz55_2:w54.cell? ⟨gb168,2,none⟩=some (.int .i64 0):=(zAB BK168.out 2).trans rfl;have hcz55_3:w54.cell? ⟨gb168,3,none⟩=some (.slice none 0 0):=(zAB BK168.out 3).trans rfl;have hfz55_0:=zAA BK168.out 0;have hfz55_1:=zAA BK168.out 1;have hfz55_2:=zAA BK168.out 2;have hfz55_3:=zAA BK168.out 3;obtain ⟨Ao56,co56,eo56⟩:=Kd.R_slice HO163.out;subst eo56;obtain ⟨Ao57,co57,eo57⟩:=Kd.S_slice HO167.out;subst eo57)|((with_reducible refine zAd (f:=16) rfl ?_);refine goesL_ (some 11) rfl rfl Tryd.func16 (by kernel_rfl) rfl #[.agg #[.string t160,.slice Ao56 t161.length co56,.int .i64 t164,.slice Ao57 t165.length co57]] rfl aM_ ?_;(with_reducible refine (tree_Check.calls k t160 _ _ t161 t164 _ _ t165 t169 t170 _ ?side1 ?side2 ?side3 ?side4 ?side5 A2.out).mono ?_);(case side1=>(first|(with_reducible exact hG)|((repeat (with_reducible first|exact hG|apply GW.drewN|apply GW.drew|apply GW.alloc));done)|exact GW.below hG (aI_ HB.out GE168.out)));(case side2=>refine (Kd.R_reads' (e:=47) (base:=w.heap.size) (ok:=fun k_=>True) (n:=t161.length) (c:=co56) ?_).2.2;exact (by refine aR_ ?_;exact (Kd.R_mono (Kd.R_far (p:=⟨gb168,3,none⟩) (Kd.R_far (p:=⟨gb168,2,none⟩) (Kd.R_far (p:=⟨gb168,1,none⟩) (Kd.R_far (p:=⟨gb168,0,none⟩) (Kd.R_types HO163.out BK168.out (by decide)) (fun _ hk=>hk.2) (.string t160)) (fun _ hk=>hk.2) (.slice Ao56 t161.length co56)) (fun _ hk=>hk.2) (.int .i64 t164)) (fun _ hk=>hk.2) (.slice Ao57 t165.length co57)) (fun _ h_=>h_.1))));(case side3=>exact (Kd.R_reads' HO163.out).2.1);(case side4=>refine (Kd.S_reads' (e:=33) (base:=w.heap.size) (ok:=fun k_=>True) (n:=t165.length) (c:=co57) ?_).2.2;exact (by refine aS_ ?_;exact (Kd.S_mono (Kd.S_far (p:=⟨gb168,3,none⟩) (Kd.S_far (p:=⟨gb168,2,none⟩) (Kd.S_far (p:=⟨gb168,1,none⟩) (Kd.S_far (p:=⟨gb168,0,none⟩) (Kd.S_types HO167.out BK168.out (by decide)) (fun _ hk=>hk.2) (.string t160)) (fun _ hk=>hk.2) (.slice Ao56 t161.length co56)) (fun _ hk=>hk.2) (.int .i64 t164)) (fun _ hk=>hk.2) (.slice Ao57 t165.length co57)) (fun _ h_=>h_.1))));(case side5=>exact (Kd.S_reads' HO167.out).2.1);rintro e w58 ⟨rfl,hb⟩;refine ⟨_,rfl,?_⟩;have n0_:=aK_ (Kd.R_below (by refine aR_ ?_;exact (Kd.R_mono (Kd.R_far (p:=⟨gb168,3,none⟩) (Kd.R_far (p:=⟨gb168,2,none⟩) (Kd.R_far (p:=⟨gb168,1,none⟩) (Kd.R_far (p:=⟨gb168,0,none⟩) (Kd.R_types HO163.out BK168.out (by decide)) (fun _ hk=>hk.2) (.string t160)) (fun _ hk=>hk.2) (.slice Ao56 t161.length co56)) (fun _ hk=>hk.2) (.int .i64 t164)) (fun _ hk=>hk.2) (.slice Ao57 t165.length co57)) (fun _ h_=>h_.1))) hb);have n1_:=aK_ (Kd.S_below (by refine aS_ ?_;exact (Kd.S_mono (Kd.S_far (p:=⟨gb168,3,none⟩) (Kd.S_far (p:=⟨gb168,2,none⟩) (Kd.S_far (p:=⟨gb168,1,none⟩) (Kd.S_far (p:=⟨gb168,0,none⟩) (Kd.S_types HO167.out BK168.out (by decide)) (fun _ hk=>hk.2) (.string t160)) (fun _ hk=>hk.2) (.slice Ao56 t161.length co56)) (fun _ hk=>hk.2) (.int .i64 t164)) (fun _ hk=>hk.2) (.slice Ao57 t165.length co57)) (fun _ h_=>h_.1))) hb);have n2_:=aK_ (zAM (g:=gb168) (o:=.cells #[.string t160,.slice Ao56 t161.length co56,.int .i64 t164,.slice Ao57 t165.length co57] 25 (0,0)) (by refine aB_ ?_;refine zAa (cs:=#[.string t160,.slice Ao56 t161.length co56,.int .i64 t164,.slice none 0 0]) ?_ 3 _ rfl;refine aB_ ?_;refine zAa (cs:=#[.string t160,.slice Ao56 t161.length co56,.int .i64 0,.slice none 0 0]) ?_ 2 _ rfl;refine aB_ ?_;refine zAa (cs:=#[.string t160,.slice none 0 0,.int .i64 0,.slice none 0 0]) ?_ 1 _ rfl;refine aB_ ?_;refine zAa (cs:=#[.string (⟨#[]⟩:ByteArray),.slice none 0 0,.int .i64 0,.slice none 0 0]) ?_ 0 _ rfl;refine aB_ ?_;exact BK168.out) hb);have n3_:=aK_ (zAG (aI_ HB.out GE168.out) hb);clear HO163;clear HO167;clear BK168;clear HB;have HO163:=n0_;have HO167:=n1_;have BK168:=n2_;have HB:=n3_;clear n0_ n1_ n2_ n3_;(try clear hb);(try clear hb2);(try clear hk);(try clear hi);have hcz59_0:w58.cell? ⟨gb168,0,none⟩=some (.string t160):=(zAB BK168.out 0).trans rfl;have hcz59_1:w58.cell? ⟨gb168,1,none⟩=some (.slice Ao56 t161.length co56):=(zAB BK168.out 1).trans rfl;have hcz59_2:w58.cell? ⟨gb168,2,none⟩=some (.int .i64 t164):=(zAB BK168.out 2).trans rfl;have hcz59_3:w58.cell? ⟨gb168,3,none⟩=some (.slice Ao57 t165.length co57):=(zAB BK168.out 3).trans rfl;have hfz59_0:=zAA BK168.out 0;have hfz59_1:=zAA BK168.out 1;have hfz59_2:=zAA BK168.out 2;have hfz59_3:=zAA BK168.out 3)|((with_reducible refine zAd (f:=23) rfl ?_);refine goesL_ (some 16) rfl rfl Tryd.func23 (by kernel_rfl) rfl #[.agg #[.string t160,.slice Ao56 t161.length co56,.int .i64 t164,.slice Ao57 t165.length co57]] rfl aM_ ?_;(with_reducible refine (tree_Firsts.calls k t160 _ _ t161 t164 _ _ t165 t171 t174 _ ?side1 ?side2 ?side3 ?side4 ?side5 A3.out).mono ?_);(case side1=>(first|(with_reducible exact hG)|((repeat (with_reducible first|exact hG|apply GW.drewN|apply GW.drew|apply GW.alloc));done)|exact GW.below hG (aI_ HB.out GE168.out)));(case side2=>repeat (first|exact (Kd.R_reads' HO163.out).2.2|(with_reducible refine Kd.C_alloc ?_ _)|(with_reducible refine Kd.C_drewN ?_ _)|(with_reducible refine Kd.C_drew ?_)));(case side3=>exact (Kd.R_reads' HO163.out).2.1);(case side4=>repeat (first|exact (Kd.S_reads' HO167.out).2.2|(with_reducible refine Kd.C_alloc ?_ _)|(with_reducible refine Kd.C_drewN ?_ _)|(with_reducible refine Kd.C_drew ?_)));(case side5=>exact (Kd.S_reads' HO167.out).2.1);rintro e w60 ⟨v172,rfl,ho0,hb⟩;refine ⟨_,rfl,?_⟩;have n0_:=aK_ (Kd.R_below (aR_ HO163.out) hb);have n1_:=aK_ (Kd.S_below (aS_ HO167.out) hb);have n2_:=aK_ (Kd.R_lower ho0 (zAE (aI_ HB.out GE168.out)));have n3_:=aK_ (zAM (g:=gb168) (o:=.cells #[.string t160,.slice Ao56 t161.length co56,.int .i64 t164,.slice Ao57 t165.length co57] 25 (0,0)) (aB_ BK168.out) hb);have n4_:=aK_ (zAG (aI_ HB.out GE168.out) hb);clear HO163;clear HO167;clear BK168;clear HB;have HO163:=n0_;have HO167:=n1_;have HO173:=n2_;have BK168:=n3_;have HB:=n4_;clear n0_ n1_ n2_ n3_ n4_;(try clear hb);(try clear hb2);(try clear hk);(try clear hi);(try clear ho0))|((with_reducible refine zAd (f:=16) rfl ?_);refine goesL_ (some 21) rfl rfl Tryd.func16 (by kernel_rfl) rfl #[.agg #[.string (⟨#[112,108,97,110]⟩:ByteArray),.slice none 0 0,.int .i64 0,.slice none 0 0]] rfl aM_ ?_;(refine (tree_Check.calls k (⟨#[112,108,97,110]⟩:ByteArray) _ _ ([]:List (S47)) 0 _ _ ([]:List (S33)) t175 t176 _ ?side1 ?side2 ?side3 ?side4 ?side5 A4.out).mono ?_);(case side1=>(first|(with_reducible exact hG)|((repeat (with_reducible first|exact hG|apply GW.drewN|apply GW.drew|apply GW.alloc));done)|exact GW.below hG (aI_ HB.out GE168.out)));(case side2=>exact Kd.C_nil _ _);(case side3=>exact Nat.le_refl _);(case side4=>exact Kd.C_nil _ _);(case side5=>exact Nat.le_refl _);rintro e w61 ⟨rfl,hb⟩;refine ⟨_,rfl,?_⟩;have n0_:=aK_ (Kd.R_below (aR_ HO163.out) hb);have n1_:=aK_ (Kd.S_below (aS_ HO167.out) hb);have n2_:=aK_ (Kd.R_below (aR_ HO173.out) hb);have n3_:=aK_ (zAM (g:=gb168) (o:=.cells #[.string t160,.slice Ao56 t161.length co56,.int .i64 t164,.slice Ao57 t165.length co57] 25 (0,0)) (aB_ BK168.out) hb);have n4_:=aK_ (zAG (aI_ HB.out GE168.out) hb);clear HO163;clear HO167;clear HO173;clear BK168;clear HB;have HO163:=n0_;have HO167:=n1_;have HO173:=n2_;have BK168:=n3_;have HB:=n4_;clear n0_ n1_ n2_ n3_ n4_;(try clear hb);(try clear hb2);(try clear hk);(try clear hi)))
  go_ret
  exact ⟨by first|rfl|(simp [zAQ,zAR] <;> rfl)|(simp [*,zAQ,zAR] <;> rfl),aI_ HB.out GE168.out⟩
 rw [if_pos c7] at H
 have c7b0:(t174 == 0)=true:=beq_iff_eq.mpr c7
 have c7b1:(t174 != 0)=false:=bne_eq_false_iff_eq.mpr c7
 clear c7
 obtain ⟨y177,hy177⟩:∃ y_:List Int,y_=(([0,1,0,3,0]:List Int)):=⟨_,rfl⟩
 replace H:((zAY.f k t171 y177).bind fun t180=>(if t180=true then (if t176=61 then ((tree_Same.f k t160 t161 t164 t165 t160 t161 t164 t165).bind fun t181=>(some t181)) else (some false)) else (some false)))=some r:=by first|(rw [hy177];with_reducible exact H)|(have H2_:=(Option.bind_some _ _).symm.trans H;rw [hy177];with_reducible exact H2_)|(have H2_:=(Option.bind_some _ _).symm.trans H;with_reducible exact H2_)|with_reducible exact H|(rw [hy177];exact H)|exact H
 have Ny177:=aK_ hy177
 clear hy177
 replace H:=Option.bind_eq_some_iff.mp H
 obtain ⟨t180,A80,H⟩:=H
 replace H:(if t180=true then (if t176=61 then ((tree_Same.f k t160 t161 t164 t165 t160 t161 t164 t165).bind fun t181=>(some t181)) else (some false)) else (some false))=some r:=H
 have A8:=aK_ A80
 clear A80
 by_cases c9:t180=true
 rotate_left
 ·replace c9:=Bool.eq_false_iff.mpr c9
  subst c9
  have H1:(some false)=some r:=by rw [if_neg (show ¬ (false=true) by decide)] at H;exact H
  clear H
  have H:=H1
  clear H1
  obtain rfl:=Option.some.inj H
  go_enter Tryd.func15,Tryd.ntmps15
  go_wp2_with (first|((with_reducible refine zAd (f:=36) rfl ?_);refine goesL_ (some 8) rfl rfl Tryd.func36 (by kernel_rfl) rfl #[] rfl aM_ ?_;(with_reducible refine (octroilaw05_five.calls  t160 t161 t164 t165 _ A1.out).mono ?_);rintro e w40 ⟨v162,v166,rfl,ho0,ho1,hb⟩;refine ⟨_,rfl,?_⟩;have n0_:=aK_ (Kd.R_lower ho0 (zAE (aH_ HB.out)));have n1_:=aK_ (Kd.S_lower ho1 (zAE (aH_ HB.out)));have n2_:=aK_ (zAG (aH_ HB.out) hb);clear HB;have HO163:=n0_;have HO167:=n1_;have HB:=n2_;clear n0_ n1_ n2_;(try clear hb);(try clear hb2);(try clear hk);(try clear hi);(try clear ho0);(try clear ho1))|((with_reducible refine zAX (N:=1) rfl ?_);(try (refine zAZ (by rfl) ?_;dsimp only));refine zAW ?hg (N:=1) ?hd (cs:=#[.string (⟨#[]⟩:ByteArray),.slice none 0 0,.int .i64 0,.slice none 0 0]) (t:=25) ?hr ?_;(case hd=>rfl);(case hg=>rfl);(case hr=>first|(go_simp;done)|(go_simp;rfl));intro gb168 hg w41 hbox hb;have n0_:=aK_ (Kd.R_below (aR_ HO163.out) hb);have n1_:=aK_ (Kd.S_below (aS_ HO167.out) hb);have n2_:=aK_ (zAG (aH_ HB.out) hb);have n3_:=aK_ (hbox);have n4_:=aK_ ((by rw [hg];exact (zAE (aH_ HB.out)):w.heap.size≤gb168));have n5_:=aK_ ((by rw [hg];exact (zAE (aH_ HB.out)):w.heap.size≤gb168));clear HO163;clear HO167;clear HB;have HO163:=n0_;have HO167:=n1_;have HB:=n2_;have BK168:=n3_;have GW168:=n4_;have GE168:=n5_;clear n0_ n1_ n2_ n3_ n4_ n5_;clear hb hbox hg;have hcz42_0:w41.cell? ⟨gb168,0,none⟩=some (.string (⟨#[]⟩:ByteArray)):=(zAB BK168.out 0).trans rfl;have hcz42_1:w41.cell? ⟨gb168,1,none⟩=some (.slice none 0 0):=(zAB BK168.out 1).trans rfl;have hcz42_2:w41.cell? ⟨gb168,2,none⟩=some (.int .i64 0):=(zAB BK168.out 2).trans rfl;have hcz42_3:w41.cell? ⟨gb168,3,none⟩=some (.slice none 0 0):=(zAB BK168.out 3).trans rfl;have hfz42_0:=zAA BK168.out 0;have hfz42_1:=zAA BK168.out 1;have hfz42_2:=zAA BK168.out 2;have hfz42_3:=zAA BK168.out 3;obtain ⟨Ao43,co43,eo43⟩:=Kd.R_slice HO163.out;subst eo43;obtain ⟨Ao44,co44,eo44⟩:=Kd.S_slice HO167.out;subst eo44)|((with_reducible refine zAd (f:=16) rfl ?_);refine goesL_ (some 11) rfl rfl Tryd.func16 (by kernel_rfl) rfl #[.agg #[.string t160,.slice Ao43 t161.length co43,.int .i64 t164,.slice Ao44 t165.length co44]] rfl aM_ ?_;(with_reducible refine (tree_Check.calls k t160 _ _ t161 t164 _ _ t165 t169 t170 _ ?side1 ?side2 ?side3 ?side4 ?side5 A2.out).mono ?_);(case side1=>(first|(with_reducible exact hG)|((repeat (with_reducible first|exact hG|apply GW.drewN|apply GW.drew|apply GW.alloc));done)|exact GW.below hG (aI_ HB.out GE168.out)));(case side2=>refine (Kd.R_reads' (e:=47) (base:=w.heap.size) (ok:=fun k_=>True) (n:=t161.length) (c:=co43) ?_).2.2;exact (by refine aR_ ?_;exact (Kd.R_mono (Kd.R_far (p:=⟨gb168,3,none⟩) (Kd.R_far (p:=⟨gb168,2,none⟩) (Kd.R_far (p:=⟨gb168,1,none⟩) (Kd.R_far (p:=⟨gb168,0,none⟩) (Kd.R_types HO163.out BK168.out (by decide)) (fun _ hk=>hk.2) (.string t160)) (fun _ hk=>hk.2) (.slice Ao43 t161.length co43)) (fun _ hk=>hk.2) (.int .i64 t164)) (fun _ hk=>hk.2) (.slice Ao44 t165.length co44)) (fun _ h_=>h_.1))));(case side3=>exact (Kd.R_reads' HO163.out).2.1);(case side4=>refine (Kd.S_reads' (e:=33) (base:=w.heap.size) (ok:=fun k_=>True) (n:=t165.length) (c:=co44) ?_).2.2;exact (by refine aS_ ?_;exact (Kd.S_mono (Kd.S_far (p:=⟨gb168,3,none⟩) (Kd.S_far (p:=⟨gb168,2,none⟩) (Kd.S_far (p:=⟨gb168,1,none⟩) (Kd.S_far (p:=⟨gb168,0,none⟩) (Kd.S_types HO167.out BK168.out (by decide)) (fun _ hk=>hk.2) (.string t160)) (fun _ hk=>hk.2) (.slice Ao43 t161.length co43)) (fun _ hk=>hk.2) (.int .i64 t164)) (fun _ hk=>hk.2) (.slice Ao44 t165.length co44)) (fun _ h_=>h_.1))));(case side5=>exact (Kd.S_reads' HO167.out).2.1);rintro e w45 ⟨rfl,hb⟩;refine ⟨_,rfl,?_⟩;have n0_:=aK_ (Kd.R_below (by refine aR_ ?_;exact (Kd.R_mono (Kd.R_far (p:=⟨gb168,3,none⟩) (Kd.R_far (p:=⟨gb168,2,none⟩) (Kd.R_far (p:=⟨gb168,1,none⟩) (Kd.R_far (p:=⟨gb168,0,none⟩) (Kd.R_types HO163.out BK168.out (by decide)) (fun _ hk=>hk.2) (.string t160)) (fun _ hk=>hk.2) (.slice Ao43 t161.length co43)) (fun _ hk=>hk.2) (.int .i64 t164)) (fun _ hk=>hk.2) (.slice Ao44 t165.length co44)) (fun _ h_=>h_.1))) hb);have n1_:=aK_ (Kd.S_below (by refine aS_ ?_;exact (Kd.S_mono (Kd.S_far (p:=⟨gb168,3,none⟩) (Kd.S_far (p:=⟨gb168,2,none⟩) (Kd.S_far (p:=⟨gb168,1,none⟩) (Kd.S_far (p:=⟨gb168,0,none⟩) (Kd.S_types HO167.out BK168.out (by decide)) (fun _ hk=>hk.2) (.string t160)) (fun _ hk=>hk.2) (.slice Ao43 t161.length co43)) (fun _ hk=>hk.2) (.int .i64 t164)) (fun _ hk=>hk.2) (.slice Ao44 t165.length co44)) (fun _ h_=>h_.1))) hb);have n2_:=aK_ (zAM (g:=gb168) (o:=.cells #[.string t160,.slice Ao43 t161.length co43,.int .i64 t164,.slice Ao44 t165.length co44] 25 (0,0)) (by refine aB_ ?_;refine zAa (cs:=#[.string t160,.slice Ao43 t161.length co43,.int .i64 t164,.slice none 0 0]) ?_ 3 _ rfl;refine aB_ ?_;refine zAa (cs:=#[.string t160,.slice Ao43 t161.length co43,.int .i64 0,.slice none 0 0]) ?_ 2 _ rfl;refine aB_ ?_;refine zAa (cs:=#[.string t160,.slice none 0 0,.int .i64 0,.slice none 0 0]) ?_ 1 _ rfl;refine aB_ ?_;refine zAa (cs:=#[.string (⟨#[]⟩:ByteArray),.slice none 0 0,.int .i64 0,.slice none 0 0]) ?_ 0 _ rfl;refine aB_ ?_;exact BK168.out) hb);have n3_:=aK_ (zAG (aI_ HB.out GE168.out) hb);clear HO163;clear HO167;clear BK168;clear HB;have HO163:=n0_;have HO167:=n1_;have BK168:=n2_;have HB:=n3_;clear n0_ n1_ n2_ n3_;(try clear hb);(try clear hb2);(try clear hk);(try clear hi);have hcz46_0:w45.cell? ⟨gb168,0,none⟩=some (.string t160):=(zAB BK168.out 0).trans rfl;have hcz46_1:w45.cell? ⟨gb168,1,none⟩=some (.slice Ao43 t161.length co43):=(zAB BK168.out 1).trans rfl;have hcz46_2:w45.cell? ⟨gb168,2,none⟩=some (.int .i64 t164):=(zAB BK168.out 2).trans rfl;have hcz46_3:w45.cell? ⟨gb168,3,none⟩=some (.slice Ao44 t165.length co44):=(zAB BK168.out 3).trans rfl;have hfz46_0:=zAA BK168.out 0;have hfz46_1:=zAA BK168.out 1;have hfz46_2:=zAA BK168.out 2;have hfz46_3:=zAA BK168.out 3)|((with_reducible refine zAd (f:=23) rfl ?_);refine goesL_ (some 16) rfl rfl Tryd.func23 (by kernel_rfl) rfl #[.agg #[.string t160,.slice Ao43 t161.length co43,.int .i64 t164,.slice Ao44 t165.length co44]] rfl aM_ ?_;(with_reducible refine (tree_Firsts.calls k t160 _ _ t161 t164 _ _ t165 t171 t174 _ ?side1 ?side2 ?side3 ?side4 ?side5 A3.out).mono ?_);(case side1=>(first|(with_reducible exact hG)|((repeat (with_reducible first|exact hG|apply GW.drewN|apply GW.drew|apply GW.alloc));done)|exact GW.below hG (aI_ HB.out GE168.out)));(case side2=>repeat (first|exact (Kd.R_reads' HO163.out).2.2|(with_reducible refine Kd.C_alloc ?_ _)|(with_reducible refine Kd.C_drewN ?_ _)|(with_reducible refine Kd.C_drew ?_)));(case side3=>exact (Kd.R_reads' HO163.out).2.1);(case side4=>repeat (first|exact (Kd.S_reads' HO167.out).2.2|(with_reducible refine Kd.C_alloc ?_ _)|(with_reducible refine Kd.C_drewN ?_ _)|(with_reducible refine Kd.C_drew ?_)));(case side5=>exact (Kd.S_reads' HO167.out).2.1);rintro e w47 ⟨v172,rfl,ho0,hb⟩;refine ⟨_,rfl,?_⟩;have n0_:=aK_ (Kd.R_below (aR_ HO163.out) hb);have n1_:=aK_ (Kd.S_below (aS_ HO167.out) hb);have n2_:=aK_ (Kd.R_lower ho0 (zAE (aI_ HB.out GE168.out)));have n3_:=aK_ (zAM (g:=gb168) (o:=.cells #[.string t160,.slice Ao43 t161.length co43,.int .i64 t164,.slice Ao44 t165.length co44] 25 (0,0)) (aB_ BK168.out) hb);have n4_:=aK_ (zAG (aI_ HB.out GE168.out) hb);clear HO163;clear HO167;clear BK168;clear HB;have HO163:=n0_;have HO167:=n1_;have HO173:=n2_;have BK168:=n3_;have HB:=n4_;clear n0_ n1_ n2_ n3_ n4_;(try clear hb);(try clear hb2);(try clear hk);(try clear hi);(try clear ho0))|((with_reducible refine zAd (f:=16) rfl ?_);refine goesL_ (some 21) rfl rfl Tryd.func16 (by kernel_rfl) rfl #[.agg #[.string (⟨#[112,108,97,110]⟩:ByteArray),.slice none 0 0,.int .i64 0,.slice none 0 0]] rfl aM_ ?_;(refine (tree_Check.calls k (⟨#[112,108,97,110]⟩:ByteArray) _ _ ([]:List (S47)) 0 _ _ ([]:List (S33)) t175 t176 _ ?side1 ?side2 ?side3 ?side4 ?side5 A4.out).mono ?_);(case side1=>(first|(with_reducible exact hG)|((repeat (with_reducible first|exact hG|apply GW.drewN|apply GW.drew|apply GW.alloc));done)|exact GW.below hG (aI_ HB.out GE168.out)));(case side2=>exact Kd.C_nil _ _);(case side3=>exact Nat.le_refl _);(case side4=>exact Kd.C_nil _ _);(case side5=>exact Nat.le_refl _);rintro e w48 ⟨rfl,hb⟩;refine ⟨_,rfl,?_⟩;have n0_:=aK_ (Kd.R_below (aR_ HO163.out) hb);have n1_:=aK_ (Kd.S_below (aS_ HO167.out) hb);have n2_:=aK_ (Kd.R_below (aR_ HO173.out) hb);have n3_:=aK_ (zAM (g:=gb168) (o:=.cells #[.string t160,.slice Ao43 t161.length co43,.int .i64 t164,.slice Ao44 t165.length co44] 25 (0,0)) (aB_ BK168.out) hb);have n4_:=aK_ (zAG (aI_ HB.out GE168.out) hb);clear HO163;clear HO167;clear HO173;clear BK168;clear HB;have HO163:=n0_;have HO167:=n1_;have HO173:=n2_;have BK168:=n3_;have HB:=n4_;clear n0_ n1_ n2_ n3_ n4_;(try clear hb);(try clear hb2);(try clear hk);(try clear hi))|((with_reducible refine zAX (N:=36) rfl ?_);(try (refine zAZ (by rfl) ?_;dsimp only));refine Kd.R_lit (Kd.int .i64) _ 3 ?hg (N:=36) ?hd (xs:=([0,1,0,3,0]:List Int)) (inner:=[.int .i64 0,.int .i64 1,.int .i64 0,.int .i64 3,.int .i64 0]) (ok:=fun _=>True) (okp:=fun _=>True) ?hr ?hp (fun _ hk=>hk) trivial (Below.refl _ _) (Nat.le_refl _) (by simp) ?_;(case hd=>rfl);(case hg=>rfl);(case hr=>first|(go_simp;done)|(go_simp;rfl));(case hp=>exact (Reps.one (show Kd.M (Kd.int .i64) _ _ _ 0 [.int .i64 0] from rfl) (Reps.one (show Kd.M (Kd.int .i64) _ _ _ 1 [.int .i64 1] from rfl) (Reps.one (show Kd.M (Kd.int .i64) _ _ _ 0 [.int .i64 0] from rfl) (Reps.one (show Kd.M (Kd.int .i64) _ _ _ 3 [.int .i64 3] from rfl) (Reps.one (show Kd.M (Kd.int .i64) _ _ _ 0 [.int .i64 0] from rfl) (Reps.none _ _)))))));intro v178 w49 ho50 hb hg_ hnew_;clear hg_ hnew_;(first|rw [← Ny177.out] at ho50|(simp only [Int.reduceToNat] at ho50;rw [← Ny177.out] at ho50));have n0_:=aK_ (Kd.R_below (aR_ HO163.out) hb);have n1_:=aK_ (Kd.S_below (aS_ HO167.out) hb);have n2_:=aK_ (Kd.R_elder' (aR_ HO173.out) (Kd.R_base ho50) hb);have n3_:=aK_ (Kd.R_lower (Kd.R_new' ho50 (Kd.R_lt (aR_ HO173.out))) (zAE (aI_ HB.out GE168.out)));have n4_:=aK_ (zAM (g:=gb168) (o:=.cells #[.string t160,.slice Ao43 t161.length co43,.int .i64 t164,.slice Ao44 t165.length co44] 25 (0,0)) (aB_ BK168.out) hb);have n5_:=aK_ (zAG (aI_ HB.out GE168.out) hb);clear HO163;clear HO167;clear HO173;clear BK168;clear HB;have HO163:=n0_;have HO167:=n1_;have HO173:=n2_;have HO179:=n3_;have BK168:=n4_;have HB:=n5_;clear n0_ n1_ n2_ n3_ n4_ n5_;clear hb ho50;obtain ⟨Ao51,co51,eo51⟩:=Kd.R_slice HO173.out;subst eo51;obtain ⟨Ao52,co52,eo52⟩:=Kd.R_slice HO179.out;subst eo52)|(go_at_call 26;(with_reducible refine (zAY.calls k _ _ t171 _ _ y177 false _ ?side1 ?side2 ?side3 ?side4 A8.out).mono ?_);(case side1=>repeat (first|exact (Kd.R_reads' HO173.out).2.2|(with_reducible refine Kd.C_alloc ?_ _)|(with_reducible refine Kd.C_drewN ?_ _)|(with_reducible refine Kd.C_drew ?_)));(case side2=>exact (Kd.R_reads' HO173.out).2.1);(case side3=>repeat (first|exact (Kd.R_reads' HO179.out).2.2|(with_reducible refine Kd.C_alloc ?_ _)|(with_reducible refine Kd.C_drewN ?_ _)|(with_reducible refine Kd.C_drew ?_)));(case side4=>exact (Kd.R_reads' HO179.out).2.1);rintro e w' ⟨rfl,⟨nd,rfl⟩⟩))
  go_ret
  exact ⟨by first|rfl|(simp [zAQ,zAR] <;> rfl)|(simp [*,zAQ,zAR] <;> rfl),aI_ HB.out GE168.out⟩
 subst c9
 have H1:(if t176=61 then ((tree_Same.f k t160 t161 t164 t165 t160 t161 t164 t165).bind fun t181=>(some t181)) else (some false))=some r:=by rw [if_pos rfl] at H;exact H
 clear H
 have H:=H1
 clear H1
 by_cases c10:t176=61
 rotate_left
 ·rw [if_neg c10] at H
  have c10b0:(t176 == 61)=false:=beq_eq_false_iff_ne.mpr c10
  have c10b1:(t176 != 61)=true:=bne_iff_ne.mpr c10
  obtain rfl:=Option.some.inj H
  go_enter Tryd.func15,Tryd.ntmps15
  go_wp2_with (first|((with_reducible refine zAd (f:=36) rfl ?_);refine goesL_ (some 8) rfl rfl Tryd.func36 (by kernel_rfl) rfl #[] rfl aM_ ?_;(with_reducible refine (octroilaw05_five.calls  t160 t161 t164 t165 _ A1.out).mono ?_);rintro e w27 ⟨v162,v166,rfl,ho0,ho1,hb⟩;refine ⟨_,rfl,?_⟩;have n0_:=aK_ (Kd.R_lower ho0 (zAE (aH_ HB.out)));have n1_:=aK_ (Kd.S_lower ho1 (zAE (aH_ HB.out)));have n2_:=aK_ (zAG (aH_ HB.out) hb);clear HB;have HO163:=n0_;have HO167:=n1_;have HB:=n2_;clear n0_ n1_ n2_;(try clear hb);(try clear hb2);(try clear hk);(try clear hi);(try clear ho0);(try clear ho1))|((with_reducible refine zAX (N:=1) rfl ?_);(try (refine zAZ (by rfl) ?_;dsimp only));refine zAW ?hg (N:=1) ?hd (cs:=#[.string (⟨#[]⟩:ByteArray),.slice none 0 0,.int .i64 0,.slice none 0 0]) (t:=25) ?hr ?_;(case hd=>rfl);(case hg=>rfl);(case hr=>first|(go_simp;done)|(go_simp;rfl));intro gb168 hg w28 hbox hb;have n0_:=aK_ (Kd.R_below (aR_ HO163.out) hb);have n1_:=aK_ (Kd.S_below (aS_ HO167.out) hb);have n2_:=aK_ (zAG (aH_ HB.out) hb);have n3_:=aK_ (hbox);have n4_:=aK_ ((by rw [hg];exact (zAE (aH_ HB.out)):w.heap.size≤gb168));have n5_:=aK_ ((by rw [hg];exact (zAE (aH_ HB.out)):w.heap.size≤gb168));clear HO163;clear HO167;clear HB;have HO163:=n0_;have HO167:=n1_;have HB:=n2_;have BK168:=n3_;have GW168:=n4_;have GE168:=n5_;clear n0_ n1_ n2_ n3_ n4_ n5_;clear hb hbox hg;have hcz29_0:w28.cell? ⟨gb168,0,none⟩=some (.string (⟨#[]⟩:ByteArray)):=(zAB BK168.out 0).trans rfl;have hcz29_1:w28.cell? ⟨gb168,1,none⟩=some (.slice none 0 0):=(zAB BK168.out 1).trans rfl;have hcz29_2:w28.cell? ⟨gb168,2,none⟩=some (.int .i64 0):=(zAB BK168.out 2).trans rfl;have hcz29_3:w28.cell? ⟨gb168,3,none⟩=some (.slice none 0 0):=(zAB BK168.out 3).trans rfl;have hfz29_0:=zAA BK168.out 0;have hfz29_1:=zAA BK168.out 1;have hfz29_2:=zAA BK168.out 2;have hfz29_3:=zAA BK168.out 3;obtain ⟨Ao30,co30,eo30⟩:=Kd.R_slice HO163.out;subst eo30;obtain ⟨Ao31,co31,eo31⟩:=Kd.S_slice HO167.out;subst eo31)|((with_reducible refine zAd (f:=16) rfl ?_);refine goesL_ (some 11) rfl rfl Tryd.func16 (by kernel_rfl) rfl #[.agg #[.string t160,.slice Ao30 t161.length co30,.int .i64 t164,.slice Ao31 t165.length co31]] rfl aM_ ?_;(with_reducible refine (tree_Check.calls k t160 _ _ t161 t164 _ _ t165 t169 t170 _ ?side1 ?side2 ?side3 ?side4 ?side5 A2.out).mono ?_);(case side1=>(first|(with_reducible exact hG)|((repeat (with_reducible first|exact hG|apply GW.drewN|apply GW.drew|apply GW.alloc));done)|exact GW.below hG (aI_ HB.out GE168.out)));(case side2=>refine (Kd.R_reads' (e:=47) (base:=w.heap.size) (ok:=fun k_=>True) (n:=t161.length) (c:=co30) ?_).2.2;exact (by refine aR_ ?_;exact (Kd.R_mono (Kd.R_far (p:=⟨gb168,3,none⟩) (Kd.R_far (p:=⟨gb168,2,none⟩) (Kd.R_far (p:=⟨gb168,1,none⟩) (Kd.R_far (p:=⟨gb168,0,none⟩) (Kd.R_types HO163.out BK168.out (by decide)) (fun _ hk=>hk.2) (.string t160)) (fun _ hk=>hk.2) (.slice Ao30 t161.length co30)) (fun _ hk=>hk.2) (.int .i64 t164)) (fun _ hk=>hk.2) (.slice Ao31 t165.length co31)) (fun _ h_=>h_.1))));(case side3=>exact (Kd.R_reads' HO163.out).2.1);(case side4=>refine (Kd.S_reads' (e:=33) (base:=w.heap.size) (ok:=fun k_=>True) (n:=t165.length) (c:=co31) ?_).2.2;exact (by refine aS_ ?_;exact (Kd.S_mono (Kd.S_far (p:=⟨gb168,3,none⟩) (Kd.S_far (p:=⟨gb168,2,none⟩) (Kd.S_far (p:=⟨gb168,1,none⟩) (Kd.S_far (p:=⟨gb168,0,none⟩) (Kd.S_types HO167.out BK168.out (by decide)) (fun _ hk=>hk.2) (.string t160)) (fun _ hk=>hk.2) (.slice Ao30 t161.length co30)) (fun _ hk=>hk.2) (.int .i64 t164)) (fun _ hk=>hk.2) (.slice Ao31 t165.length co31)) (fun _ h_=>h_.1))));(case side5=>exact (Kd.S_reads' HO167.out).2.1);rintro e w32 ⟨rfl,hb⟩;refine ⟨_,rfl,?_⟩;have n0_:=aK_ (Kd.R_below (by refine aR_ ?_;exact (Kd.R_mono (Kd.R_far (p:=⟨gb168,3,none⟩) (Kd.R_far (p:=⟨gb168,2,none⟩) (Kd.R_far (p:=⟨gb168,1,none⟩) (Kd.R_far (p:=⟨gb168,0,none⟩) (Kd.R_types HO163.out BK168.out (by decide)) (fun _ hk=>hk.2) (.string t160)) (fun _ hk=>hk.2) (.slice Ao30 t161.length co30)) (fun _ hk=>hk.2) (.int .i64 t164)) (fun _ hk=>hk.2) (.slice Ao31 t165.length co31)) (fun _ h_=>h_.1))) hb);have n1_:=aK_ (Kd.S_below (by refine aS_ ?_;exact (Kd.S_mono (Kd.S_far (p:=⟨gb168,3,none⟩) (Kd.S_far (p:=⟨gb168,2,none⟩) (Kd.S_far (p:=⟨gb168,1,none⟩) (Kd.S_far (p:=⟨gb168,0,none⟩) (Kd.S_types HO167.out BK168.out (by decide)) (fun _ hk=>hk.2) (.string t160)) (fun _ hk=>hk.2) (.slice Ao30 t161.length co30)) (fun _ hk=>hk.2) (.int .i64 t164)) (fun _ hk=>hk.2) (.slice Ao31 t165.length co31)) (fun _ h_=>h_.1))) hb);have n2_:=aK_ (zAM (g:=gb168) (o:=.cells #[.string t160,.slice Ao30 t161.length co30,.int .i64 t164,.slice Ao31 t165.length co31] 25 (0,0)) (by refine aB_ ?_;refine zAa (cs:=#[.string t160,.slice Ao30 t161.length co30,.int .i64 t164,.slice none 0 0]) ?_ 3 _ rfl;refine aB_ ?_;refine zAa (cs:=#[.string t160,.slice Ao30 t161.length co30,.int .i64 0,.slice none 0 0]) ?_ 2 _ rfl;refine aB_ ?_;refine zAa (cs:=#[.string t160,.slice none 0 0,.int .i64 0,.slice none 0 0]) ?_ 1 _ rfl;refine aB_ ?_;refine zAa (cs:=#[.string (⟨#[]⟩:ByteArray),.slice none 0 0,.int .i64 0,.slice none 0 0]) ?_ 0 _ rfl;refine aB_ ?_;exact BK168.out) hb);have n3_:=aK_ (zAG (aI_ HB.out GE168.out) hb);clear HO163;clear HO167;clear BK168;clear HB;have HO163:=n0_;have HO167:=n1_;have BK168:=n2_;have HB:=n3_;clear n0_ n1_ n2_ n3_;(try clear hb);(try clear hb2);(try clear hk);(try clear hi);have hcz33_0:w32.cell? ⟨gb168,0,none⟩=some (.string t160):=(zAB BK168.out 0).trans rfl;have hcz33_1:w32.cell? ⟨gb168,1,none⟩=some (.slice Ao30 t161.length co30):=(zAB BK168.out 1).trans rfl;have hcz33_2:w32.cell? ⟨gb168,2,none⟩=some (.int .i64 t164):=(zAB BK168.out 2).trans rfl;have hcz33_3:w32.cell? ⟨gb168,3,none⟩=some (.slice Ao31 t165.length co31):=(zAB BK168.out 3).trans rfl;have hfz33_0:=zAA BK168.out 0;have hfz33_1:=zAA BK168.out 1;have hfz33_2:=zAA BK168.out 2;have hfz33_3:=zAA BK168.out 3)|((with_reducible refine zAd (f:=23) rfl ?_);refine goesL_ (some 16) rfl rfl Tryd.func23 (by kernel_rfl) rfl #[.agg #[.string t160,.slice Ao30 t161.length co30,.int .i64 t164,.slice Ao31 t165.length co31]] rfl aM_ ?_;(with_reducible refine (tree_Firsts.calls k t160 _ _ t161 t164 _ _ t165 t171 t174 _ ?side1 ?side2 ?side3 ?side4 ?side5 A3.out).mono ?_);(case side1=>(first|(with_reducible exact hG)|((repeat (with_reducible first|exact hG|apply GW.drewN|apply GW.drew|apply GW.alloc));done)|exact GW.below hG (aI_ HB.out GE168.out)));(case side2=>repeat (first|exact (Kd.R_reads' HO163.out).2.2|(with_reducible refine Kd.C_alloc ?_ _)|(with_reducible refine Kd.C_drewN ?_ _)|(with_reducible refine Kd.C_drew ?_)));(case side3=>exact (Kd.R_reads' HO163.out).2.1);(case side4=>repeat (first|exact (Kd.S_reads' HO167.out).2.2|(with_reducible refine Kd.C_alloc ?_ _)|(with_reducible refine Kd.C_drewN ?_ _)|(with_reducible refine Kd.C_drew ?_)));(case side5=>exact (Kd.S_reads' HO167.out).2.1);rintro e w34 ⟨v172,rfl,ho0,hb⟩;refine ⟨_,rfl,?_⟩;have n0_:=aK_ (Kd.R_below (aR_ HO163.out) hb);have n1_:=aK_ (Kd.S_below (aS_ HO167.out) hb);have n2_:=aK_ (Kd.R_lower ho0 (zAE (aI_ HB.out GE168.out)));have n3_:=aK_ (zAM (g:=gb168) (o:=.cells #[.string t160,.slice Ao30 t161.length co30,.int .i64 t164,.slice Ao31 t165.length co31] 25 (0,0)) (aB_ BK168.out) hb);have n4_:=aK_ (zAG (aI_ HB.out GE168.out) hb);clear HO163;clear HO167;clear BK168;clear HB;have HO163:=n0_;have HO167:=n1_;have HO173:=n2_;have BK168:=n3_;have HB:=n4_;clear n0_ n1_ n2_ n3_ n4_;(try clear hb);(try clear hb2);(try clear hk);(try clear hi);(try clear ho0))|((with_reducible refine zAd (f:=16) rfl ?_);refine goesL_ (some 21) rfl rfl Tryd.func16 (by kernel_rfl) rfl #[.agg #[.string (⟨#[112,108,97,110]⟩:ByteArray),.slice none 0 0,.int .i64 0,.slice none 0 0]] rfl aM_ ?_;(refine (tree_Check.calls k (⟨#[112,108,97,110]⟩:ByteArray) _ _ ([]:List (S47)) 0 _ _ ([]:List (S33)) t175 t176 _ ?side1 ?side2 ?side3 ?side4 ?side5 A4.out).mono ?_);(case side1=>(first|(with_reducible exact hG)|((repeat (with_reducible first|exact hG|apply GW.drewN|apply GW.drew|apply GW.alloc));done)|exact GW.below hG (aI_ HB.out GE168.out)));(case side2=>exact Kd.C_nil _ _);(case side3=>exact Nat.le_refl _);(case side4=>exact Kd.C_nil _ _);(case side5=>exact Nat.le_refl _);rintro e w35 ⟨rfl,hb⟩;refine ⟨_,rfl,?_⟩;have n0_:=aK_ (Kd.R_below (aR_ HO163.out) hb);have n1_:=aK_ (Kd.S_below (aS_ HO167.out) hb);have n2_:=aK_ (Kd.R_below (aR_ HO173.out) hb);have n3_:=aK_ (zAM (g:=gb168) (o:=.cells #[.string t160,.slice Ao30 t161.length co30,.int .i64 t164,.slice Ao31 t165.length co31] 25 (0,0)) (aB_ BK168.out) hb);have n4_:=aK_ (zAG (aI_ HB.out GE168.out) hb);clear HO163;clear HO167;clear HO173;clear BK168;clear HB;have HO163:=n0_;have HO167:=n1_;have HO173:=n2_;have BK168:=n3_;have HB:=n4_;clear n0_ n1_ n2_ n3_ n4_;(try clear hb);(try clear hb2);(try clear hk);(try clear hi))|((with_reducible refine zAX (N:=36) rfl ?_);(try (refine zAZ (by rfl) ?_;dsimp only));refine Kd.R_lit (Kd.int .i64) _ 3 ?hg (N:=36) ?hd (xs:=([0,1,0,3,0]:List Int)) (inner:=[.int .i64 0,.int .i64 1,.int .i64 0,.int .i64 3,.int .i64 0]) (ok:=fun _=>True) (okp:=fun _=>True) ?hr ?hp (fun _ hk=>hk) trivial (Below.refl _ _) (Nat.le_refl _) (by simp) ?_;(case hd=>rfl);(case hg=>rfl);(case hr=>first|(go_simp;done)|(go_simp;rfl));(case hp=>exact (Reps.one (show Kd.M (Kd.int .i64) _ _ _ 0 [.int .i64 0] from rfl) (Reps.one (show Kd.M (Kd.int .i64) _ _ _ 1 [.int .i64 1] from rfl) (Reps.one (show Kd.M (Kd.int .i64) _ _ _ 0 [.int .i64 0] from rfl) (Reps.one (show Kd.M (Kd.int .i64) _ _ _ 3 [.int .i64 3] from rfl) (Reps.one (show Kd.M (Kd.int .i64) _ _ _ 0 [.int .i64 0] from rfl) (Reps.none _ _)))))));intro v178 w36 ho37 hb hg_ hnew_;clear hg_ hnew_;(first|rw [← Ny177.out] at ho37|(simp only [Int.reduceToNat] at ho37;rw [← Ny177.out] at ho37));have n0_:=aK_ (Kd.R_below (aR_ HO163.out) hb);have n1_:=aK_ (Kd.S_below (aS_ HO167.out) hb);have n2_:=aK_ (Kd.R_elder' (aR_ HO173.out) (Kd.R_base ho37) hb);have n3_:=aK_ (Kd.R_lower (Kd.R_new' ho37 (Kd.R_lt (aR_ HO173.out))) (zAE (aI_ HB.out GE168.out)));have n4_:=aK_ (zAM (g:=gb168) (o:=.cells #[.string t160,.slice Ao30 t161.length co30,.int .i64 t164,.slice Ao31 t165.length co31] 25 (0,0)) (aB_ BK168.out) hb);have n5_:=aK_ (zAG (aI_ HB.out GE168.out) hb);clear HO163;clear HO167;clear HO173;clear BK168;clear HB;have HO163:=n0_;have HO167:=n1_;have HO173:=n2_;have HO179:=n3_;have BK168:=n4_;have HB:=n5_;clear n0_ n1_ n2_ n3_ n4_ n5_;clear hb ho37;obtain ⟨Ao38,co38,eo38⟩:=Kd.R_slice HO173.out;subst eo38;obtain ⟨Ao39,co39,eo39⟩:=Kd.R_slice HO179.out;subst eo39)|(go_at_call 26;(with_reducible refine (zAY.calls k _ _ t171 _ _ y177 true _ ?side1 ?side2 ?side3 ?side4 A8.out).mono ?_);(case side1=>repeat (first|exact (Kd.R_reads' HO173.out).2.2|(with_reducible refine Kd.C_alloc ?_ _)|(with_reducible refine Kd.C_drewN ?_ _)|(with_reducible refine Kd.C_drew ?_)));(case side2=>exact (Kd.R_reads' HO173.out).2.1);(case side3=>repeat (first|exact (Kd.R_reads' HO179.out).2.2|(with_reducible refine Kd.C_alloc ?_ _)|(with_reducible refine Kd.C_drewN ?_ _)|(with_reducible refine Kd.C_drew ?_)));(case side4=>exact (Kd.R_reads' HO179.out).2.1);rintro e w' ⟨rfl,⟨nd,rfl⟩⟩))
  go_ret
  exact ⟨by first|rfl|(simp [zAQ,zAR] <;> rfl)|(simp [*,zAQ,zAR] <;> rfl),aI_ HB.out GE168.out⟩
 rw [if_pos c10] at H
 have c10b0:(t176 == 61)=true:=beq_iff_eq.mpr c10
 have c10b1:(t176 != 61)=false:=bne_eq_false_iff_eq.mpr c10
 clear c10
 replace H:=Option.bind_eq_some_iff.mp H
 obtain ⟨t181,A110,H⟩:=H
 replace H:(some t181)=some r:=H
 have A11:=aK_ A110
 clear A110
 obtain rfl:=Option.some.inj H
 go_enter Tryd.func15,Tryd.ntmps15
 go_wp2_with (first|((with_reducible refine zAd (f:=36) rfl ?_);refine goesL_ (some 8) rfl rfl Tryd.func36 (by kernel_rfl) rfl #[] rfl aM_ ?_;(with_reducible refine (octroilaw05_five.calls  t160 t161 t164 t165 _ A1.out).mono ?_);rintro e w12 ⟨v162,v166,rfl,ho0,ho1,hb⟩;refine ⟨_,rfl,?_⟩;have n0_:=aK_ (Kd.R_lower ho0 (zAE (aH_ HB.out)));have n1_:=aK_ (Kd.S_lower ho1 (zAE (aH_ HB.out)));have n2_:=aK_ (zAG (aH_ HB.out) hb);clear HB;have HO163:=n0_;have HO167:=n1_;have HB:=n2_;clear n0_ n1_ n2_;(try clear hb);(try clear hb2);(try clear hk);(try clear hi);(try clear ho0);(try clear ho1))|((with_reducible refine zAX (N:=1) rfl ?_);(try (refine zAZ (by rfl) ?_;dsimp only));refine zAW ?hg (N:=1) ?hd (cs:=#[.string (⟨#[]⟩:ByteArray),.slice none 0 0,.int .i64 0,.slice none 0 0]) (t:=25) ?hr ?_;(case hd=>rfl);(case hg=>rfl);(case hr=>first|(go_simp;done)|(go_simp;rfl));intro gb168 hg w13 hbox hb;have n0_:=aK_ (Kd.R_below (aR_ HO163.out) hb);have n1_:=aK_ (Kd.S_below (aS_ HO167.out) hb);have n2_:=aK_ (zAG (aH_ HB.out) hb);have n3_:=aK_ (hbox);have n4_:=aK_ ((by rw [hg];exact (zAE (aH_ HB.out)):w.heap.size≤gb168));have n5_:=aK_ ((by rw [hg];exact (zAE (aH_ HB.out)):w.heap.size≤gb168));clear HO163;clear HO167;clear HB;have HO163:=n0_;have HO167:=n1_;have HB:=n2_;have BK168:=n3_;have GW168:=n4_;have GE168:=n5_;clear n0_ n1_ n2_ n3_ n4_ n5_;clear hb hbox hg;have hcz14_0:w13.cell? ⟨gb168,0,none⟩=some (.string (⟨#[]⟩:ByteArray)):=(zAB BK168.out 0).trans rfl;have hcz14_1:w13.cell? ⟨gb168,1,none⟩=some (.slice none 0 0):=(zAB BK168.out 1).trans rfl;have hcz14_2:w13.cell? ⟨gb168,2,none⟩=some (.int .i64 0):=(zAB BK168.out 2).trans rfl;have hcz14_3:w13.cell? ⟨gb168,3,none⟩=some (.slice none 0 0):=(zAB BK168.out 3).trans rfl;have hfz14_0:=zAA BK168.out 0;have hfz14_1:=zAA BK168.out 1;have hfz14_2:=zAA BK168.out 2;have hfz14_3:=zAA BK168.out 3;obtain ⟨Ao15,co15,eo15⟩:=Kd.R_slice HO163.out;subst eo15;obtain ⟨Ao16,co16,eo16⟩:=Kd.S_slice HO167.out;subst eo16)|((with_reducible refine zAd (f:=16) rfl ?_);refine goesL_ (some 11) rfl rfl Tryd.func16 (by kernel_rfl) rfl #[.agg #[.string t160,.slice Ao15 t161.length co15,.int .i64 t164,.slice Ao16 t165.length co16]] rfl aM_ ?_;(with_reducible refine (tree_Check.calls k t160 _ _ t161 t164 _ _ t165 t169 t170 _ ?side1 ?side2 ?side3 ?side4 ?side5 A2.out).mono ?_);(case side1=>(first|(with_reducible exact hG)|((repeat (with_reducible first|exact hG|apply GW.drewN|apply GW.drew|apply GW.alloc));done)|exact GW.below hG (aI_ HB.out GE168.out)));(case side2=>refine (Kd.R_reads' (e:=47) (base:=w.heap.size) (ok:=fun k_=>True) (n:=t161.length) (c:=co15) ?_).2.2;exact (by refine aR_ ?_;exact (Kd.R_mono (Kd.R_far (p:=⟨gb168,3,none⟩) (Kd.R_far (p:=⟨gb168,2,none⟩) (Kd.R_far (p:=⟨gb168,1,none⟩) (Kd.R_far (p:=⟨gb168,0,none⟩) (Kd.R_types HO163.out BK168.out (by decide)) (fun _ hk=>hk.2) (.string t160)) (fun _ hk=>hk.2) (.slice Ao15 t161.length co15)) (fun _ hk=>hk.2) (.int .i64 t164)) (fun _ hk=>hk.2) (.slice Ao16 t165.length co16)) (fun _ h_=>h_.1))));(case side3=>exact (Kd.R_reads' HO163.out).2.1);(case side4=>refine (Kd.S_reads' (e:=33) (base:=w.heap.size) (ok:=fun k_=>True) (n:=t165.length) (c:=co16) ?_).2.2;exact (by refine aS_ ?_;exact (Kd.S_mono (Kd.S_far (p:=⟨gb168,3,none⟩) (Kd.S_far (p:=⟨gb168,2,none⟩) (Kd.S_far (p:=⟨gb168,1,none⟩) (Kd.S_far (p:=⟨gb168,0,none⟩) (Kd.S_types HO167.out BK168.out (by decide)) (fun _ hk=>hk.2) (.string t160)) (fun _ hk=>hk.2) (.slice Ao15 t161.length co15)) (fun _ hk=>hk.2) (.int .i64 t164)) (fun _ hk=>hk.2) (.slice Ao16 t165.length co16)) (fun _ h_=>h_.1))));(case side5=>exact (Kd.S_reads' HO167.out).2.1);rintro e w17 ⟨rfl,hb⟩;refine ⟨_,rfl,?_⟩;have n0_:=aK_ (Kd.R_below (by refine aR_ ?_;exact (Kd.R_mono (Kd.R_far (p:=⟨gb168,3,none⟩) (Kd.R_far (p:=⟨gb168,2,none⟩) (Kd.R_far (p:=⟨gb168,1,none⟩) (Kd.R_far (p:=⟨gb168,0,none⟩) (Kd.R_types HO163.out BK168.out (by decide)) (fun _ hk=>hk.2) (.string t160)) (fun _ hk=>hk.2) (.slice Ao15 t161.length co15)) (fun _ hk=>hk.2) (.int .i64 t164)) (fun _ hk=>hk.2) (.slice Ao16 t165.length co16)) (fun _ h_=>h_.1))) hb);have n1_:=aK_ (Kd.S_below (by refine aS_ ?_;exact (Kd.S_mono (Kd.S_far (p:=⟨gb168,3,none⟩) (Kd.S_far (p:=⟨gb168,2,none⟩) (Kd.S_far (p:=⟨gb168,1,none⟩) (Kd.S_far (p:=⟨gb168,0,none⟩) (Kd.S_types HO167.out BK168.out (by decide)) (fun _ hk=>hk.2) (.string t160)) (fun _ hk=>hk.2) (.slice Ao15 t161.length co15)) (fun _ hk=>hk.2) (.int .i64 t164)) (fun _ hk=>hk.2) (.slice Ao16 t165.length co16)) (fun _ h_=>h_.1))) hb);have n2_:=aK_ (zAM (g:=gb168) (o:=.cells #[.string t160,.slice Ao15 t161.length co15,.int .i64 t164,.slice Ao16 t165.length co16] 25 (0,0)) (by refine aB_ ?_;refine zAa (cs:=#[.string t160,.slice Ao15 t161.length co15,.int .i64 t164,.slice none 0 0]) ?_ 3 _ rfl;refine aB_ ?_;refine zAa (cs:=#[.string t160,.slice Ao15 t161.length co15,.int .i64 0,.slice none 0 0]) ?_ 2 _ rfl;refine aB_ ?_;refine zAa (cs:=#[.string t160,.slice none 0 0,.int .i64 0,.slice none 0 0]) ?_ 1 _ rfl;refine aB_ ?_;refine zAa (cs:=#[.string (⟨#[]⟩:ByteArray),.slice none 0 0,.int .i64 0,.slice none 0 0]) ?_ 0 _ rfl;refine aB_ ?_;exact BK168.out) hb);have n3_:=aK_ (zAG (aI_ HB.out GE168.out) hb);clear HO163;clear HO167;clear BK168;clear HB;have HO163:=n0_;have HO167:=n1_;have BK168:=n2_;have HB:=n3_;clear n0_ n1_ n2_ n3_;(try clear hb);(try clear hb2);(try clear hk);(try clear hi);have hcz18_0:w17.cell? ⟨gb168,0,none⟩=some (.string t160):=(zAB BK168.out 0).trans rfl;have hcz18_1:w17.cell? ⟨gb168,1,none⟩=some (.slice Ao15 t161.length co15):=(zAB BK168.out 1).trans rfl;have hcz18_2:w17.cell? ⟨gb168,2,none⟩=some (.int .i64 t164):=(zAB BK168.out 2).trans rfl;have hcz18_3:w17.cell? ⟨gb168,3,none⟩=some (.slice Ao16 t165.length co16):=(zAB BK168.out 3).trans rfl;have hfz18_0:=zAA BK168.out 0;have hfz18_1:=zAA BK168.out 1;have hfz18_2:=zAA BK168.out 2;have hfz18_3:=zAA BK168.out 3)|((with_reducible refine zAd (f:=23) rfl ?_);refine goesL_ (some 16) rfl rfl Tryd.func23 (by kernel_rfl) rfl #[.agg #[.string t160,.slice Ao15 t161.length co15,.int .i64 t164,.slice Ao16 t165.length co16]] rfl aM_ ?_;(with_reducible refine (tree_Firsts.calls k t160 _ _ t161 t164 _ _ t165 t171 t174 _ ?side1 ?side2 ?side3 ?side4 ?side5 A3.out).mono ?_);(case side1=>(first|(with_reducible exact hG)|((repeat (with_reducible first|exact hG|apply GW.drewN|apply GW.drew|apply GW.alloc));done)|exact GW.below hG (aI_ HB.out GE168.out)));(case side2=>repeat (first|exact (Kd.R_reads' HO163.out).2.2|(with_reducible refine Kd.C_alloc ?_ _)|(with_reducible refine Kd.C_drewN ?_ _)|(with_reducible refine Kd.C_drew ?_)));(case side3=>exact (Kd.R_reads' HO163.out).2.1);(case side4=>repeat (first|exact (Kd.S_reads' HO167.out).2.2|(with_reducible refine Kd.C_alloc ?_ _)|(with_reducible refine Kd.C_drewN ?_ _)|(with_reducible refine Kd.C_drew ?_)));(case side5=>exact (Kd.S_reads' HO167.out).2.1);rintro e w19 ⟨v172,rfl,ho0,hb⟩;refine ⟨_,rfl,?_⟩;have n0_:=aK_ (Kd.R_below (aR_ HO163.out) hb);have n1_:=aK_ (Kd.S_below (aS_ HO167.out) hb);have n2_:=aK_ (Kd.R_lower ho0 (zAE (aI_ HB.out GE168.out)));have n3_:=aK_ (zAM (g:=gb168) (o:=.cells #[.string t160,.slice Ao15 t161.length co15,.int .i64 t164,.slice Ao16 t165.length co16] 25 (0,0)) (aB_ BK168.out) hb);have n4_:=aK_ (zAG (aI_ HB.out GE168.out) hb);clear HO163;clear HO167;clear BK168;clear HB;have HO163:=n0_;have HO167:=n1_;have HO173:=n2_;have BK168:=n3_;have HB:=n4_;clear n0_ n1_ n2_ n3_ n4_;(try clear hb);(try clear hb2);(try clear hk);(try clear hi);(try clear ho0))|((with_reducible refine zAd (f:=16) rfl ?_);refine goesL_ (some 21) rfl rfl Tryd.func16 (by kernel_rfl) rfl #[.agg #[.string (⟨#[112,108,97,110]⟩:ByteArray),.slice none 0 0,.int .i64 0,.slice none 0 0]] rfl aM_ ?_;(refine (tree_Check.calls k (⟨#[112,108,97,110]⟩:ByteArray) _ _ ([]:List (S47)) 0 _ _ ([]:List (S33)) t175 t176 _ ?side1 ?side2 ?side3 ?side4 ?side5 A4.out).mono ?_);(case side1=>(first|(with_reducible exact hG)|((repeat (with_reducible first|exact hG|apply GW.drewN|apply GW.drew|apply GW.alloc));done)|exact GW.below hG (aI_ HB.out GE168.out)));(case side2=>exact Kd.C_nil _ _);(case side3=>exact Nat.le_refl _);(case side4=>exact Kd.C_nil _ _);(case side5=>exact Nat.le_refl _);rintro e w20 ⟨rfl,hb⟩;refine ⟨_,rfl,?_⟩;have n0_:=aK_ (Kd.R_below (aR_ HO163.out) hb);have n1_:=aK_ (Kd.S_below (aS_ HO167.out) hb);have n2_:=aK_ (Kd.R_below (aR_ HO173.out) hb);have n3_:=aK_ (zAM (g:=gb168) (o:=.cells #[.string t160,.slice Ao15 t161.length co15,.int .i64 t164,.slice Ao16 t165.length co16] 25 (0,0)) (aB_ BK168.out) hb);have n4_:=aK_ (zAG (aI_ HB.out GE168.out) hb);clear HO163;clear HO167;clear HO173;clear BK168;clear HB;have HO163:=n0_;have HO167:=n1_;have HO173:=n2_;have BK168:=n3_;have HB:=n4_;clear n0_ n1_ n2_ n3_ n4_;(try clear hb);(try clear hb2);(try clear hk);(try clear hi))|((with_reducible refine zAX (N:=36) rfl ?_);(try (refine zAZ (by rfl) ?_;dsimp only));refine Kd.R_lit (Kd.int .i64) _ 3 ?hg (N:=36) ?hd (xs:=([0,1,0,3,0]:List Int)) (inner:=[.int .i64 0,.int .i64 1,.int .i64 0,.int .i64 3,.int .i64 0]) (ok:=fun _=>True) (okp:=fun _=>True) ?hr ?hp (fun _ hk=>hk) trivial (Below.refl _ _) (Nat.le_refl _) (by simp) ?_;(case hd=>rfl);(case hg=>rfl);(case hr=>first|(go_simp;done)|(go_simp;rfl));(case hp=>exact (Reps.one (show Kd.M (Kd.int .i64) _ _ _ 0 [.int .i64 0] from rfl) (Reps.one (show Kd.M (Kd.int .i64) _ _ _ 1 [.int .i64 1] from rfl) (Reps.one (show Kd.M (Kd.int .i64) _ _ _ 0 [.int .i64 0] from rfl) (Reps.one (show Kd.M (Kd.int .i64) _ _ _ 3 [.int .i64 3] from rfl) (Reps.one (show Kd.M (Kd.int .i64) _ _ _ 0 [.int .i64 0] from rfl) (Reps.none _ _)))))));intro v178 w21 ho22 hb hg_ hnew_;clear hg_ hnew_;(first|rw [← Ny177.out] at ho22|(simp only [Int.reduceToNat] at ho22;rw [← Ny177.out] at ho22));have n0_:=aK_ (Kd.R_below (aR_ HO163.out) hb);have n1_:=aK_ (Kd.S_below (aS_ HO167.out) hb);have n2_:=aK_ (Kd.R_elder' (aR_ HO173.out) (Kd.R_base ho22) hb);have n3_:=aK_ (Kd.R_lower (Kd.R_new' ho22 (Kd.R_lt (aR_ HO173.out))) (zAE (aI_ HB.out GE168.out)));have n4_:=aK_ (zAM (g:=gb168) (o:=.cells #[.string t160,.slice Ao15 t161.length co15,.int .i64 t164,.slice Ao16 t165.length co16] 25 (0,0)) (aB_ BK168.out) hb);have n5_:=aK_ (zAG (aI_ HB.out GE168.out) hb);clear HO163;clear HO167;clear HO173;clear BK168;clear HB;have HO163:=n0_;have HO167:=n1_;have HO173:=n2_;have HO179:=n3_;have BK168:=n4_;have HB:=n5_;clear n0_ n1_ n2_ n3_ n4_ n5_;clear hb ho22;obtain ⟨Ao23,co23,eo23⟩:=Kd.R_slice HO173.out;subst eo23;obtain ⟨Ao24,co24,eo24⟩:=Kd.R_slice HO179.out;subst eo24)|(go_at_call 26;(with_reducible refine (zAY.calls k _ _ t171 _ _ y177 true _ ?side1 ?side2 ?side3 ?side4 A8.out).mono ?_);(case side1=>repeat (first|exact (Kd.R_reads' HO173.out).2.2|(with_reducible refine Kd.C_alloc ?_ _)|(with_reducible refine Kd.C_drewN ?_ _)|(with_reducible refine Kd.C_drew ?_)));(case side2=>exact (Kd.R_reads' HO173.out).2.1);(case side3=>repeat (first|exact (Kd.R_reads' HO179.out).2.2|(with_reducible refine Kd.C_alloc ?_ _)|(with_reducible refine Kd.C_drewN ?_ _)|(with_reducible refine Kd.C_drew ?_)));(case side4=>exact (Kd.R_reads' HO179.out).2.1);rintro e w' ⟨rfl,⟨nd,rfl⟩⟩;have hcz25_0:w21.cell? ⟨gb168,0,none⟩=some (.string t160):=(zAB BK168.out 0).trans rfl;have hcz25_1:w21.cell? ⟨gb168,1,none⟩=some (.slice Ao15 t161.length co15):=(zAB BK168.out 1).trans rfl;have hcz25_2:w21.cell? ⟨gb168,2,none⟩=some (.int .i64 t164):=(zAB BK168.out 2).trans rfl;have hcz25_3:w21.cell? ⟨gb168,3,none⟩=some (.slice Ao16 t165.length co16):=(zAB BK168.out 3).trans rfl;have hfz25_0:=zAA BK168.out 0;have hfz25_1:=zAA BK168.out 1;have hfz25_2:=zAA BK168.out 2;have hfz25_3:=zAA BK168.out 3)|(go_at_call 18;(with_reducible refine (tree_Same.calls k t160 _ _ t161 t164 _ _ t165 t160 _ _ t161 t164 _ _ t165 t181 _ ?side1 ?side2 ?side3 ?side4 ?side5 ?side6 ?side7 ?side8 A11.out).mono ?_);(case side1=>repeat (first|exact (Kd.R_reads' HO163.out).2.2|(with_reducible refine Kd.C_alloc ?_ _)|(with_reducible refine Kd.C_drewN ?_ _)|(with_reducible refine Kd.C_drew ?_)));(case side2=>exact (Kd.R_reads' HO163.out).2.1);(case side3=>repeat (first|exact (Kd.S_reads' HO167.out).2.2|(with_reducible refine Kd.C_alloc ?_ _)|(with_reducible refine Kd.C_drewN ?_ _)|(with_reducible refine Kd.C_drew ?_)));(case side4=>exact (Kd.S_reads' HO167.out).2.1);(case side5=>repeat (first|exact (Kd.R_reads' HO163.out).2.2|(with_reducible refine Kd.C_alloc ?_ _)|(with_reducible refine Kd.C_drewN ?_ _)|(with_reducible refine Kd.C_drew ?_)));(case side6=>exact (Kd.R_reads' HO163.out).2.1);(case side7=>repeat (first|exact (Kd.S_reads' HO167.out).2.2|(with_reducible refine Kd.C_alloc ?_ _)|(with_reducible refine Kd.C_drewN ?_ _)|(with_reducible refine Kd.C_drew ?_)));(case side8=>exact (Kd.S_reads' HO167.out).2.1);rintro e w26 ⟨rfl,hb⟩;have n0_:=aK_ (Kd.R_below (aR_ HO163.out) hb);have n1_:=aK_ (Kd.S_below (aS_ HO167.out) hb);have n2_:=aK_ (Kd.R_below (aR_ HO173.out) hb);have n3_:=aK_ (Kd.R_below (aR_ HO179.out) hb);have n4_:=aK_ (zAM (g:=gb168) (o:=.cells #[.string t160,.slice Ao15 t161.length co15,.int .i64 t164,.slice Ao16 t165.length co16] 25 (0,0)) (aB_ BK168.out) hb);have n5_:=aK_ (zAG (aI_ HB.out GE168.out) hb);clear HO163;clear HO167;clear HO173;clear HO179;clear BK168;clear HB;have HO163:=n0_;have HO167:=n1_;have HO173:=n2_;have HO179:=n3_;have BK168:=n4_;have HB:=n5_;clear n0_ n1_ n2_ n3_ n4_ n5_;(try clear hb);(try clear hb2);(try clear hk);(try clear hi)))
 go_ret
 exact ⟨by first|rfl|(simp [zAQ,zAR] <;> rfl)|(simp [*,zAQ,zAR] <;> rfl),aI_ HB.out GE168.out⟩
end Go.Proofs.YthbnigjckjkmnaaDoor.S

namespace Go.Proofs.YthbnigjckjkmnaaDoor.S
open Go.RowKit Go.Proofs.YthbnigjckjkmnaaDoorW.PrintWords Go.Proofs.YthbnigjckjkmnaaDoorW.PrintLast Go.Proofs.YthbnigjckjkmnaaDoorW.PrintMore Go.Proofs.YthbnigjckjkmnaaDoor.Pure
abbrev bs (s : ByteArray) : List UInt8 := s.data.toList
theorem bs_len (s : ByteArray) : (bs s).length = s.size := by rw [bs, Array.length_toList]; rfl
theorem bt_nat (s : ByteArray) (i : Nat) (h : i < s.size) : bt s (i : Int) = (((bs s)[i]'(by rw [bs_len]; exact h)).toNat : Int) := by
  unfold bt
  rw [dif_pos (by simpa using h)]
  rfl
theorem bt_drop (s : ByteArray) (i : Nat) (h : i < s.size) : ∃ r, (bs s).drop i = (bs s)[i]'(by rw [bs_len]; exact h) :: r ∧ r = (bs s).drop (i + 1) :=
  ⟨_, List.drop_eq_getElem_cons (by rw [bs_len]; exact h), rfl⟩
theorem wrap_small {x : Int} (h0 : -9223372036854775808 ≤ x) (h1 : x ≤ 9223372036854775807) : wrap64 x = x := by unfold wrap64; omega
theorem runL_take_all (p : Int → Bool) (l : List UInt8) : ∀ c ∈ l.take (runL p l), p (c.toNat : Int) = true := by
  induction l with
  | nil => intro c hc; simp at hc
  | cons a r ih =>
    intro c hc
    by_cases h : p (a.toNat : Int) = true
    · simp only [runL, h, if_true, List.take_succ_cons, List.mem_cons] at hc
      rcases hc with rfl | hc
      · exact h
      · exact ih c hc
    · simp [runL, h] at hc
theorem letter_f (c : Int) : scan_letter.f c = some (isLetter c) := by
  unfold scan_letter.f isLetter
  by_cases h : c ≥ 97
  · rw [if_pos h]; simp [show (97 : Int) ≤ c from h]
  · rw [if_neg h]; simp [show ¬ (97 : Int) ≤ c from h]
def flatW : List (List UInt8) → List UInt8
  | [] => []
  | w :: ws => w ++ 32 :: flatW ws
theorem contains_cons (b : UInt8) (l n : List UInt8) : Lib.contains (b :: l) n = (n.isPrefixOf (b :: l) || Lib.contains l n) := by
  have hge := Lib.index_ge l n
  have hi : Lib.index (b :: l) n = (if n.isPrefixOf (b :: l) then 0 else if Lib.index l n == -1 then -1 else Lib.index l n + 1) := rfl
  rw [Bool.eq_iff_iff]
  unfold Lib.contains
  rw [Bool.or_eq_true, decide_eq_true_iff, decide_eq_true_iff, hi]
  by_cases hp : n.isPrefixOf (b :: l) = true
  · rw [if_pos hp]; simp [hp]
  · rw [if_neg hp]
    by_cases hx : Lib.index l n = -1
    · rw [hx]; simp [hp]
    · have : (Lib.index l n == -1) = false := by simpa using hx
      rw [this]
      simp only [Bool.false_eq_true, if_false]
      constructor
      · intro _; exact .inr (by omega)
      · intro _; omega
theorem pre_words (s w r : List UInt8) (hs : ∀ c ∈ s, c ≠ 32) (hw : ∀ c ∈ w, c ≠ 32) : (s ++ [32]).isPrefixOf (w ++ 32 :: r) = decide (s = w) := by
  induction s generalizing w with
  | nil =>
    cases w with
    | nil => simp [List.isPrefixOf]
    | cons b w =>
      have := hw b (by simp)
      simp [List.isPrefixOf, this]
      exact fun h => this h.symm
  | cons a s ih =>
    cases w with
    | nil =>
      have := hs a (by simp)
      simp [List.isPrefixOf, this]
    | cons b w =>
      have h1 := ih w (fun c hc => hs c (by simp [hc])) (fun c hc => hw c (by simp [hc]))
      simp only [List.cons_append, List.isPrefixOf, h1]
      by_cases hab : a = b
      · subst hab; simp
      · simp [hab]
theorem skip_word (w t n : List UInt8) (hw : ∀ c ∈ w, c ≠ 32) : Lib.contains (w ++ t) (32 :: n) = Lib.contains t (32 :: n) := by
  induction w with
  | nil => rfl
  | cons b w ih =>
    have hb := hw b (by simp)
    rw [List.cons_append, contains_cons, ih (fun c hc => hw c (by simp [hc]))]
    have : (32 :: n).isPrefixOf (b :: (w ++ t)) = false := by
      simp [List.isPrefixOf]
      exact fun h => absurd h.symm hb
    rw [this, Bool.false_or]
theorem contains_words (s : List UInt8) (ws : List (List UInt8)) (hs : ∀ c ∈ s, c ≠ 32) (hw : ∀ w ∈ ws, ∀ c ∈ w, c ≠ 32) :
    Lib.contains (32 :: flatW ws) (32 :: (s ++ [32])) = decide (s ∈ ws) := by
  induction ws with
  | nil =>
    rw [flatW, contains_cons]
    have h1 : (32 :: (s ++ [32])).isPrefixOf [32] = false := by
      cases s <;> simp [List.isPrefixOf]
    have h2 : Lib.contains [] (32 :: (s ++ [32])) = false := rfl
    rw [h1, h2]
    simp
  | cons w ws ih =>
    have h1 : (32 :: (s ++ [32])).isPrefixOf (32 :: (w ++ 32 :: flatW ws)) = decide (s = w) := by
      rw [List.isPrefixOf, pre_words s w _ hs (hw w (by simp))]
      simp
    rw [flatW, contains_cons, h1, skip_word w _ _ (hw w (by simp)), ih (fun v hv => hw v (by simp [hv]))]
    simp [Bool.decide_or]
def wordsL : List (List UInt8) := [[112, 108, 97, 110], [114, 111, 117, 110, 100], [98, 121], [98, 108, 111, 99, 107, 115], [109, 105, 110], [109, 97, 120], [111, 118, 101, 114], [117, 112, 116, 111], [103, 114, 97, 100, 117, 97, 116, 101, 100], [118, 111, 108, 117, 109, 101], [111, 102, 102], [105, 102], [102, 108, 111, 111, 114], [99, 101, 105, 108], [122, 101, 114, 111], [104, 97, 108, 102], [101, 118, 101, 110]]
theorem words_letters : ∀ w ∈ wordsL, w ≠ [] ∧ runL isLetter w = w.length := by decide
theorem words_blank : ∀ w ∈ wordsL, ∀ c ∈ w, c ≠ 32 := by decide
theorem runL_all (p : Int → Bool) (l : List UInt8) (h : runL p l = l.length) : ∀ c ∈ l, p (c.toNat : Int) = true := by
  have := runL_take_all p l
  rw [h, List.take_length] at this
  exact this
theorem word_f (s : ByteArray) (hs : s.size ≤ 140737488351232) : scan_Word.f s = some (decide (bs s ∈ wordsL)) := by
  unfold scan_Word.f
  rw [ByteArray.toList_eq]
  by_cases h0 : bs s = []
  · rw [if_pos h0]
    have : ¬ (bs s ∈ wordsL) := fun h => (words_letters _ h).1 h0
    rw [decide_eq_false this]
  · rw [if_neg h0]
    have hlen : ((⟨#[32]⟩ : ByteArray) ++ s).size = 1 + s.size := by rw [ByteArray.size_append]; rfl
    unfold scan_run_letter.f
    rw [if_pos (by omega), Option.bind_some]
    by_cases hr : runL isLetter (bs s) = s.size
    · rw [if_pos (by exact congrArg Int.ofNat hr), if_pos (by omega), if_pos (by omega)]
      unfold strings_Contains.f
      rw [if_pos (by decide), Option.bind_some]
      congr 1
      have hbs : (((⟨#[32]⟩ : ByteArray) ++ s) ++ (⟨#[32]⟩ : ByteArray)).data.toList = 32 :: (bs s ++ [32]) := by
        rw [ByteArray.data_append, ByteArray.data_append, Array.toList_append, Array.toList_append]
        rfl
      rw [hbs]
      exact contains_words (bs s) wordsL (fun c hc h => by
        have := runL_all isLetter (bs s) (by rw [hr, bs_len]) c hc
        subst h
        exact absurd this (by decide)) words_blank
    · rw [if_neg (by intro h; exact hr (Int.ofNat.inj h))]
      have : ¬ (bs s ∈ wordsL) := fun h => hr (by rw [(words_letters _ h).2, bs_len])
      rw [decide_eq_false this]
def nameB (l : List UInt8) : Bool := decide (0 < l.length) && decide (l.length ≤ 32) && (match l with | [] => false | c :: _ => isLetter (c.toNat : Int)) && decide (runL isInner l = l.length) && !decide (l ∈ wordsL)
theorem name_f (s : ByteArray) (hs : s.size ≤ 140737488351232) : scan_Name.f s = some (nameB (bs s)) := by
  have hbl := bs_len s
  unfold scan_Name.f nameB
  rw [ByteArray.toList_eq]
  by_cases h0 : bs s = []
  · rw [if_pos h0, h0]; rfl
  · have hpos : 0 < s.size := by rw [← hbl]; exact List.length_pos_iff.2 h0
    rw [if_neg h0, hbl, decide_eq_true hpos, Bool.true_and]
    by_cases h32 : s.size ≤ 32
    · have hb := bt_nat s 0 hpos
      obtain ⟨r, hr, _⟩ := bt_drop s 0 hpos
      rw [List.drop_zero] at hr
      have hb' : bt s 0 = (((bs s)[0]'(by rw [hbl]; exact hpos)).toNat : Int) := hb
      rw [if_pos (by omega), if_pos (by omega), letter_f, Option.bind_some, decide_eq_true h32, Bool.true_and, hb']
      have hm : (match bs s with | [] => false | c :: _ => isLetter (c.toNat : Int)) = isLetter (((bs s)[0]'(by rw [hbl]; exact hpos)).toNat : Int) := by
        generalize (bs s)[0]'(by rw [hbl]; exact hpos) = c at hr ⊢
        rw [hr]
      rw [hm]
      cases hl : isLetter (((bs s)[0]'(by rw [hbl]; exact hpos)).toNat : Int) with
      | false => rw [if_neg (by decide)]; simp
      | true =>
        rw [if_pos rfl, word_f s hs]
        unfold scan_run_inner.f
        rw [if_pos (by omega), Option.bind_some, Option.bind_some, Bool.true_and]
        by_cases hr : runL isInner (bs s) = s.size
        · rw [if_pos (by exact congrArg Int.ofNat hr), decide_eq_true hr, Bool.true_and]
        · rw [if_neg (by intro h; exact hr (Int.ofNat.inj h)), decide_eq_false hr]; rfl
    · rw [if_neg (by omega), decide_eq_false h32]; simp
end Go.Proofs.YthbnigjckjkmnaaDoor.S

namespace Go.Proofs.YthbnigjckjkmnaaDoor.S
open Go.RowKit Go.Proofs.YthbnigjckjkmnaaDoorW.PrintWords Go.Proofs.YthbnigjckjkmnaaDoorW.PrintLast Go.Proofs.YthbnigjckjkmnaaDoorW.PrintMore Go.Proofs.YthbnigjckjkmnaaDoor.Pure
abbrev Nd := S33
abbrev Dm := S47
abbrev Tr := S45
theorem Ev.ifp {α : Type} {c : Prop} [Decidable c] {g f : Nat → Option α} {r : α} (hc : c) (h : Ev g r) : Ev (fun k => if c then g k else f k) r := by
  simp only [if_pos hc]; exact h
theorem Ev.ifn {α : Type} {c : Prop} [Decidable c] {g f : Nat → Option α} {r : α} (hc : ¬ c) (h : Ev f r) : Ev (fun k => if c then g k else f k) r := by
  simp only [if_neg hc]; exact h
theorem Ev.both {α : Type} {g : Nat → Option α} {r s : α} (h : Ev g r) (e : r = s) : Ev g s := e ▸ h
theorem Ev.pre {α β : Type} {o : Option β} {f : Nat → β → Option α} {b : β} {r : α} (h : o = some b) (k : Ev (fun n => f n b) r) : Ev (fun n => o.bind (f n)) r := by
  subst h
  exact k
theorem rdN (l : List Nd) (i : Nat) (h : i < l.length) : zAD l (i : Int) = l[i] := by simp [zAD, List.getD_eq_getElem?_getD, List.getElem?_eq_getElem h]
theorem rdT (l : List Tr) (i : Nat) (h : i < l.length) : zAT l (i : Int) = l[i] := by simp [zAT, List.getD_eq_getElem?_getD, List.getElem?_eq_getElem h]
theorem rdD (l : List Dm) (i : Nat) (h : i < l.length) : rd_T47 l (i : Int) = l[i] := by simp [rd_T47, List.getD_eq_getElem?_getD, List.getElem?_eq_getElem h]
theorem rdI (l : List Int) (i : Nat) (h : i < l.length) : rd l (i : Int) = l[i] := by simp [rd, List.getD_eq_getElem?_getD, List.getElem?_eq_getElem h]
theorem w_up (i : Nat) (h : i ≤ 140737488351232) : wrap64 ((i : Int) + 1) = ((i + 1 : Nat) : Int) := by unfold wrap64; omega
theorem Ev.ite2 {α : Type} {c : Prop} [Decidable c] {g f : Nat → Option α} {r s : α} (h : Ev g r) (h' : Ev f s) : Ev (fun k => if c then g k else f k) (if c then r else s) := by
  by_cases hc : c
  · rw [if_pos hc]; exact Ev.ifp hc h
  · rw [if_neg hc]; exact Ev.ifn hc h'
theorem Ev.ite3 {α : Type} {c : Prop} [Decidable c] {g f : Nat → Option α} {r s : α} (h : c → Ev g r) (h' : ¬ c → Ev f s) : Ev (fun k => if c then g k else f k) (if c then r else s) := by
  by_cases hc : c
  · rw [if_pos hc]; exact Ev.ifp hc (h hc)
  · rw [if_neg hc]; exact Ev.ifn hc (h' hc)
theorem w_len (n : Nat) (h : n ≤ 140737488351232) : wrap64 (n : Int) = n := wrap_small (by omega) (by omega)
def riseL : Option Int → List Tr → Bool
  | _, [] => true
  | p, t :: r => if (match p with | none => false | some q => decide (t.f0 ≤ q)) = true then false else if t.f0 > 1000000000000 then false else if t.f1 < -1000000000000 then false else if t.f1 > 1000000000000 then false else riseL (some t.f0) r
theorem riseL_none (t : Tr) (r : List Tr) : riseL none (t :: r) = if t.f0 > 1000000000000 then false else if t.f1 < -1000000000000 then false else if t.f1 > 1000000000000 then false else riseL (some t.f0) r := by
  rw [riseL]; exact if_neg (by decide)
theorem riseL_some (q : Int) (t : Tr) (r : List Tr) : riseL (some q) (t :: r) = if t.f0 ≤ q then false else if t.f0 > 1000000000000 then false else if t.f1 < -1000000000000 then false else if t.f1 > 1000000000000 then false else riseL (some t.f0) r := by
  rw [riseL]; simp only [decide_eq_true_eq]
def prevT (l : List Tr) : Nat → Option Int
  | 0 => none
  | j + 1 => (l[j]?).map (·.f0)
theorem prevT_succ (l : List Tr) (i : Nat) (h : i < l.length) : prevT l (i + 1) = some l[i].f0 := by simp [prevT, List.getElem?_eq_getElem h]
def riseB (l : List Tr) : Bool := if (l.length : Int) < 1 then false else if (l.length : Int) > 16 then false else if ((zAT l 0).f0 != 0) = true then false else riseL none l
theorem rising_l0 (l : List Tr) (hl : l.length ≤ 140737488351232) (d : Nat) : ∀ i, i + d = l.length → Ev (fun k => tree_rising.l0 k l l (l.length : Int) (i : Int)) (riseL (prevT l i) (l.drop i)) := by
  induction d with
  | zero =>
    intro i hi
    rw [List.drop_of_length_le (by omega)]
    refine Ev.step (f := fun _ => some true) (fun k => by simp only [tree_rising.l0]; rw [if_neg (by omega)]) ?_
    exact Ev.now _
  | succ d ih =>
    intro i hi
    have h : i < l.length := by omega
    have hn := ih (i + 1) (by omega)
    rw [prevT_succ l i h] at hn
    rw [List.drop_eq_getElem_cons h]
    refine Ev.step (fun k => by simp only [tree_rising.l0]; rw [if_pos (by omega), if_pos (by omega), if_pos (by omega), rdT l i h, w_up i (by omega)]) ?_
    cases i with
    | zero =>
      rw [show prevT l 0 = none from rfl, riseL_none]
      refine Ev.ifn (by simp) ?_
      exact Ev.ite2 (Ev.now _) (Ev.ite2 (Ev.now _) (Ev.ite2 (Ev.now _) hn))
    | succ j =>
      refine Ev.ifp (by omega) ?_
      rw [show ((j + 1 : Nat) : Int) - 1 = (j : Int) by omega, w_len j (by omega), rdT l j (by omega)]
      refine Ev.ifp (by omega) (Ev.ifp (by omega) ?_)
      rw [prevT_succ l j (by omega), riseL_some]
      exact Ev.ite2 (Ev.now _) (Ev.ite2 (Ev.now _) (Ev.ite2 (Ev.now _) (Ev.ite2 (Ev.now _) hn)))
theorem rising_ev (l : List Tr) (hl : l.length ≤ 140737488351232) : Ev (fun k => tree_rising.f k l) (riseB l) := by
  unfold riseB
  have h0 := rising_l0 l hl l.length 0 (by omega)
  refine Ev.ite3 (fun _ => ?_) (fun h1 => Ev.ite2 ?_ ?_)
  · exact Ev.step (f := fun _ => some false) (fun k => by simp [tree_rising.j0]) (Ev.now _)
  · exact Ev.step (f := fun _ => some false) (fun k => by simp [tree_rising.j0]) (Ev.now _)
  · refine Ev.ifp (by omega) (Ev.step (fun k => by simp only [tree_rising.j0]; rfl) ?_)
    exact Ev.ite2 (Ev.now _) h0
def tkOf (n : Nd) : Int := if tk n.f0 ≥ 0 then tk n.f0 else n.f3
theorem takes_f (n : Nd) (h : 1 ≤ n.f0 ∧ n.f0 ≤ 16) : tree_takes.f n.f0 n.f1 n.f2 n.f3 n.f4 n.f5 = some (tkOf n) := by
  unfold tree_takes.f tkOf
  rw [if_pos (by omega)]
def mostB (c dims : Int) : Int := if mo c < 0 then wrap64 (dims - 1) else mo c
def fieldsB (n : Nd) (dims : Int) : Bool :=
  !decide (n.f1 < 0) && (!decide (n.f1 > mostB n.f0 dims) && ((if op n.f0 = true then decide (n.f2 ≥ 1) && decide (n.f2 ≤ 6) else n.f2 == 0) && ((if tk n.f0 < 0 then decide (n.f3 ≥ 2) && decide (n.f3 ≤ 16) else n.f3 == 0) && (ti n.f0 || decide (¬ 0 < n.f4.length)))))
theorem bad_eq (n : Nd) (dims pile : Int) (h : 1 ≤ n.f0 ∧ n.f0 ≤ 16) : nodeBad n.f0 n.f1 n.f2 n.f3 n.f4.length dims pile = (!fieldsB n dims || decide (pile < tkOf n)) := by
  unfold nodeBad fieldsB tkOf mostB
  cases (decide (n.f1 < 0)) <;> cases (decide (n.f1 > if mo n.f0 < 0 then wrap64 (dims - 1) else mo n.f0)) <;> cases (if tk n.f0 < 0 then decide (n.f3 ≥ 2) && decide (n.f3 ≤ 16) else n.f3 == 0) <;> cases (if op n.f0 = true then decide (n.f2 ≥ 1) && decide (n.f2 ≤ 6) else n.f2 == 0) <;> cases (ti n.f0) <;> by_cases hq : 0 < n.f4.length <;> simp [hq]
def nodeErr (n : Nd) (dims pile : Int) : Int :=
  if n.f0 < 1 ∨ n.f0 > 16 then 50 else if nodeBad n.f0 n.f1 n.f2 n.f3 n.f4.length dims pile = true then 50 else if ti n.f0 = true then (if riseB n.f4 = true then 0 else 51) else 0
theorem node_ev (n : Nd) (hl : n.f4.length ≤ 140737488351232) (dims pile : Int) : Ev (fun k => tree_node.f k n.f0 n.f1 n.f2 n.f3 n.f4 n.f5 dims pile) (nodeErr n dims pile) := by
  unfold tree_node.f nodeErr
  refine Ev.ite2 (Ev.now _) (Ev.ite2 (Ev.now _) (Ev.ite2 ?_ (Ev.now _)))
  exact Ev.bind (rising_ev n.f4 hl) (Ev.now _)
theorem node_ok {n : Nd} {dims pile : Int} (h : nodeErr n dims pile = 0) : (1 ≤ n.f0 ∧ n.f0 ≤ 16) ∧ fieldsB n dims = true ∧ tkOf n ≤ pile ∧ 0 ≤ tkOf n := by
  unfold nodeErr at h
  by_cases h1 : n.f0 < 1 ∨ n.f0 > 16
  · rw [if_pos h1] at h; omega
  · rw [if_neg h1] at h
    have h2 : 1 ≤ n.f0 ∧ n.f0 ≤ 16 := by omega
    rw [bad_eq n dims pile h2] at h
    cases hf : fieldsB n dims with
    | false => simp [hf] at h
    | true =>
      by_cases h3 : pile < tkOf n
      · simp [h3] at h
      · refine ⟨h2, rfl, by omega, ?_⟩
        unfold tkOf
        split
        · assumption
        · rename_i h4
          unfold fieldsB at hf
          simp only [Bool.and_eq_true] at hf
          have h5 := hf.2.2.2.1
          rw [if_pos (by omega)] at h5
          simp at h5
          omega
def checkL (dims : Int) (tot : Nat) : List Nd → Nat → Int → Int × Int
  | [], _, pile => if pile = 1 then (0, 0) else ((tot : Int), 50)
  | n :: r, i, pile => if nodeErr n dims pile = 0 then checkL dims tot r (i + 1) (pile + (1 - tkOf n)) else ((i : Int), nodeErr n dims pile)
theorem check_l0 (a0 : ByteArray) (l1 : List Dm) (a2 : Int) (l3 : List Nd) (hl : l3.length ≤ 140737488351232) (ht : ∀ n ∈ l3, n.f4.length ≤ 140737488351232) (d : Nat) : ∀ (i : Nat) (pile : Int), i + d = l3.length → 0 ≤ pile → pile ≤ i →
    Ev (fun k => tree_Check.l0 k pile l3 (l3.length : Int) (i : Int) a0 l1 a2 l3) (checkL l1.length l3.length (l3.drop i) i pile) := by
  induction d with
  | zero =>
    intro i pile hi h0 h1
    rw [List.drop_of_length_le (by omega)]
    refine Ev.step (fun k => by simp only [tree_Check.l0]; rw [if_neg (by omega)]) ?_
    exact Ev.ite2 (Ev.now _) (Ev.now _)
  | succ d ih =>
    intro i pile hi h0 h1
    have h : i < l3.length := by omega
    rw [List.drop_eq_getElem_cons h]
    have hn := node_ev l3[i] (ht _ (List.getElem_mem h)) (l1.length : Int) pile
    refine Ev.step (fun k => by simp only [tree_Check.l0]; rw [if_pos (by omega), if_pos (by omega), if_pos (by omega), rdN l3 i h, w_up i (by omega)]) ?_
    refine Ev.bind hn ?_
    unfold checkL
    refine Ev.ite3 (fun he => ?_) (fun _ => Ev.now _)
    obtain ⟨hk, _, hp, hp0⟩ := node_ok he
    refine Ev.pre (takes_f _ hk) ?_
    rw [wrap_small (x := 1 - tkOf l3[i]) (by omega) (by omega), wrap_small (by omega) (by omega)]
    exact ih (i + 1) _ (by omega) (by omega) (by omega)
def anyN (nm : ByteArray) (xs : List Dm) : Bool := xs.any fun e => e.f0.toList == nm.toList
def dimsS (pre : List Dm) : List Dm → Int
  | [] => 0
  | d :: r => if nameB (bs d.f0) = true then (if anyN d.f0 pre = true then 61 else if d.f1 < 1 ∨ d.f1 > 1000000000000 then 50 else dimsS (pre ++ [d]) r) else 61
def headE (a0 : ByteArray) (l1 : List Dm) (a2 : Int) : Int :=
  if nameB (bs a0) = true then (if (l1.length : Int) < 1 ∨ (l1.length : Int) > 4 then 100 else if dimsS [] l1 = 0 then (if a2 < 0 ∨ a2 > 4 then 50 else 0) else dimsS [] l1) else 61
theorem idxL_any (nm : ByteArray) (xs : List Dm) : ∀ n : Int, 0 ≤ n → (idxL nm xs n ≥ 0 ↔ anyN nm xs = true) := by
  induction xs with
  | nil => intro n hn; simp [idxL, anyN]
  | cons d r ih =>
    intro n hn
    rw [idxL]
    by_cases h : (d.f0.toList == nm.toList) = true
    · rw [if_pos h]
      simp only [anyN, List.any_cons, h, Bool.true_or, iff_true]
      exact hn
    · rw [if_neg h, ih (n + 1) (by omega)]
      simp only [anyN, List.any_cons]
      rw [show (d.f0.toList == nm.toList) = false by simpa using h, Bool.false_or]
theorem dimsL_eq (xs : List Dm) : ∀ (pre : List Dm), (∀ d ∈ xs, d.f0.size ≤ 140737488351232) → dimsL pre xs = some (dimsS pre xs) := by
  induction xs with
  | nil => intro pre h; rfl
  | cons d r ih =>
    intro pre h
    rw [dimsL, dimsS, name_f _ (h d (List.mem_cons_self))]
    simp only [Option.bind_some]
    by_cases h1 : nameB (bs d.f0) = true
    · rw [if_pos h1, if_pos h1]
      have h2 := idxL_any d.f0 pre 0 (by omega)
      by_cases h3 : anyN d.f0 pre = true
      · rw [if_pos h3, if_pos (h2.2 h3)]
      · rw [if_neg h3, if_neg (fun q => h3 (h2.1 q))]
        by_cases h4 : d.f1 < 1 ∨ d.f1 > 1000000000000
        · rw [if_pos h4, if_pos h4]
        · rw [if_neg h4, if_neg h4]
          exact ih _ (fun e he => h e (List.mem_cons_of_mem _ he))
    · rw [if_neg h1, if_neg h1]
theorem head_ev (a0 : ByteArray) (l1 : List Dm) (a2 : Int) (l3 : List Nd) (h0 : a0.size ≤ 140737488351232) (h1 : ∀ d ∈ l1, d.f0.size ≤ 140737488351232) : Ev (fun k => tree_head.f k a0 l1 a2 l3) (headE a0 l1 a2) := by
  unfold tree_head.f headE
  refine Ev.pre (name_f a0 h0) ?_
  refine Ev.ite2 (Ev.ite2 (Ev.now _) ?_) (Ev.now _)
  refine Ev.pre (dimsL_eq l1 [] h1) ?_
  unfold modeE
  exact Ev.ite2 (Ev.ite2 (Ev.now _) (Ev.now _)) (Ev.now _)
structure PB (a0 : ByteArray) (l1 : List Dm) (l3 : List Nd) : Prop where
  name : a0.size ≤ 140737488351232
  dims : l1.length ≤ 140737488351232
  names : ∀ d ∈ l1, d.f0.size ≤ 140737488351232
  nodes : l3.length ≤ 140737488351232
  tiers : ∀ n ∈ l3, n.f4.length ≤ 140737488351232
def chk (a0 : ByteArray) (l1 : List Dm) (a2 : Int) (l3 : List Nd) : Int × Int :=
  if headE a0 l1 a2 = 0 then (if (l3.length : Int) > 1024 then (1024, 2) else checkL l1.length l3.length l3 0 0) else (-1, headE a0 l1 a2)
theorem check_ev {a0 : ByteArray} {l1 : List Dm} (a2 : Int) {l3 : List Nd} (h : PB a0 l1 l3) : Ev (fun k => tree_Check.f k a0 l1 a2 l3) (chk a0 l1 a2 l3) := by
  unfold tree_Check.f chk
  refine Ev.bind (head_ev a0 l1 a2 l3 h.name h.names) (Ev.ite2 (Ev.ite2 (Ev.now _) ?_) (Ev.now _))
  have := check_l0 a0 l1 a2 l3 h.nodes h.tiers l3.length 0 0 (by omega) (by omega) (by omega)
  exact this
structure PB2 (a0 : ByteArray) (l1 : List Dm) (a2 : Int) (l3 : List Nd) : Prop where
  pb : PB a0 l1 l3
  dims : l1.length ≤ 5864062014634
  nodes : l3.length ≤ 2199023255488
  tiers : ∀ n ∈ l3, n.f4.length ≤ 8796093022208
  mode : -9223372036854775808 ≤ a2 ∧ a2 ≤ 9223372036854775807
end Go.Proofs.YthbnigjckjkmnaaDoor.S

namespace Go.Proofs.YthbnigjckjkmnaaDoor.S
open Go.RowKit Go.Proofs.YthbnigjckjkmnaaDoorW.PrintWords Go.Proofs.YthbnigjckjkmnaaDoorW.PrintLast Go.Proofs.YthbnigjckjkmnaaDoorW.PrintMore Go.Proofs.YthbnigjckjkmnaaDoor.Pure
theorem checkL_ok (dims : Int) (tot : Nat) (l : List Nd) : ∀ (i : Nat) (pile : Int), (checkL dims tot l i pile).2 = 0 → checkL dims tot l i pile = (0, 0) := by
  induction l with
  | nil =>
    intro i pile h
    unfold checkL at h ⊢
    split at h
    · rename_i hp; rw [if_pos hp]
    · cases h
  | cons n r ih =>
    intro i pile h
    unfold checkL at h ⊢
    split at h
    · rename_i hp; rw [if_pos hp]; exact ih _ _ h
    · rename_i hp; exact absurd h hp
theorem chk_ok {a0 : ByteArray} {l1 : List Dm} {a2 : Int} {l3 : List Nd} (h : (chk a0 l1 a2 l3).2 = 0) : headE a0 l1 a2 = 0 ∧ l3.length ≤ 1024 ∧ checkL l1.length l3.length l3 0 0 = (0, 0) ∧ chk a0 l1 a2 l3 = (0, 0) := by
  unfold chk at h ⊢
  split at h
  · rename_i h1
    split at h
    · cases h
    · rename_i h2
      have := checkL_ok _ _ _ _ _ h
      refine ⟨h1, by omega, this, ?_⟩
      rw [if_pos h1, if_neg h2, this]
  · rename_i h1
    exact absurd h h1
theorem checkL_step {dims : Int} {tot : Nat} {n : Nd} {r : List Nd} {i : Nat} {pile : Int} (h : checkL dims tot (n :: r) i pile = (0, 0)) :
    nodeErr n dims pile = 0 ∧ checkL dims tot r (i + 1) (pile + (1 - tkOf n)) = (0, 0) := by
  unfold checkL at h
  split at h
  · rename_i hp; exact ⟨hp, h⟩
  · rename_i hp
    simp only [Prod.mk.injEq] at h
    exact absurd h.2 hp
def frL : List Nd → Nat → List Int → List Int → List Int
  | [], _, acc, _ => acc
  | n :: r, i, acc, pile => if tkOf n > 0 then frL r (i + 1) (acc ++ [pile.getD ((pile.length : Int) - tkOf n).toNat 0]) (pile.take ((pile.length : Int) - tkOf n).toNat ++ [pile.getD ((pile.length : Int) - tkOf n).toNat 0]) else frL r (i + 1) (acc ++ [(i : Int)]) (pile ++ [(i : Int)])
theorem firsts_l0 (dims : Int) (l3 : List Nd) (hl : l3.length ≤ 1024) (d : Nat) : ∀ (i : Nat) (acc pile : List Int), i + d = l3.length → acc.length = i → pile.length ≤ i → checkL dims l3.length (l3.drop i) i pile.length = (0, 0) →
    Ev (fun k => tree_firsts.l0 k acc pile l3 (l3.length : Int) (i : Int)) (frL (l3.drop i) i acc pile) := by
  induction d with
  | zero =>
    intro i acc pile hi ha hp hc
    rw [List.drop_of_length_le (by omega)]
    exact Ev.step (f := fun _ => some acc) (fun k => by simp only [tree_firsts.l0]; rw [if_neg (by omega)]) (Ev.now _)
  | succ d ih =>
    intro i acc pile hi ha hp hc
    have h : i < l3.length := by omega
    rw [List.drop_eq_getElem_cons h] at hc ⊢
    obtain ⟨he, hc'⟩ := checkL_step hc
    obtain ⟨hk, _, hp1, hp0⟩ := node_ok he
    refine Ev.step (fun k => by simp only [tree_firsts.l0]; rw [if_pos (by omega), if_pos (by omega), if_pos (by omega), rdN l3 i h, w_up i (by omega)]) ?_
    refine Ev.pre (takes_f _ hk) ?_
    have hnext := fun acc' pile' => ih (i + 1) acc' pile' (by omega)
    generalize l3[i] = n at *
    unfold frL
    by_cases h0 : tkOf n > 0
    · rw [if_pos h0]
      obtain ⟨m, hm⟩ := Int.eq_ofNat_of_zero_le (show 0 ≤ (pile.length : Int) - tkOf n by omega)
      have hw : wrap64 (m : Int) = (m : Int) := w_len m (by omega)
      simp only [hm, hw]
      have hml : m < pile.length := by omega
      refine Ev.ifp h0 (Ev.ifp (by omega) (Ev.ifp (by omega) (Ev.ifp (by omega) ?_)))
      refine Ev.pre rfl ?_
      have htk : (pile.take m).length = m := by rw [List.length_take]; omega
      refine Ev.ifp (by rw [Int.toNat_natCast, htk]; omega) (Ev.ifp (by omega) ?_)
      simp only [Int.toNat_natCast]
      have hg : rd pile (m : Int) = pile.getD m 0 := by simp [rd]
      rw [hg]
      refine hnext _ _ (by simp; omega) (by simp; omega) ?_
      rw [← hc']
      congr 1
      simp only [List.length_append, htk, List.length_cons, List.length_nil]
      omega
    · rw [if_neg h0]
      have hz : tkOf n = 0 := by omega
      refine Ev.ifn h0 (Ev.ifp (by omega) (Ev.ifp (by omega) ?_))
      refine hnext _ _ (by simp; omega) (by simp; omega) ?_
      rw [← hc', hz]
      congr 1
      simp
def frs (l3 : List Nd) : List Int := frL l3 0 [] []
theorem firsts_ev {a0 : ByteArray} {l1 : List Dm} (a2 : Int) {l3 : List Nd} (h : PB a0 l1 l3) : Ev (fun k => tree_Firsts.f k a0 l1 a2 l3) (if (chk a0 l1 a2 l3).2 = 0 then (frs l3, 0) else ([], (chk a0 l1 a2 l3).2)) := by
  unfold tree_Firsts.f
  refine Ev.bind (check_ev a2 h) (Ev.ite3 (fun hc => ?_) (fun _ => Ev.now _))
  obtain ⟨_, hl, hc', _⟩ := chk_ok hc
  refine Ev.bind (g := fun k => tree_firsts.f k a0 l1 a2 l3) (a := frs l3) ?_ (Ev.now _)
  exact firsts_l0 (l1.length : Int) l3 hl l3.length 0 [] [] (by omega) rfl (by simp) hc'
def five : List Nd := [(⟨3, 0, 0, 0, [], 0⟩ : Nd), (⟨2, 3, 0, 0, [], 0⟩ : Nd), (⟨8, 0, 0, 0, [], 0⟩ : Nd), (⟨2, 5, 0, 0, [], 0⟩ : Nd), (⟨6, 0, 0, 0, [], 0⟩ : Nd)]
def fiveD : List Dm := [(⟨(⟨#[97]⟩ : ByteArray), 1⟩ : Dm)]
theorem five_chk : chk (⟨#[112]⟩ : ByteArray) fiveD 0 five = (0, 0) := by decide +kernel
theorem five_PB : PB (⟨#[112]⟩ : ByteArray) fiveD five := ⟨by decide, by decide, by intro d hd; simp [fiveD] at hd; subst hd; decide, by decide, by intro n hn; simp [five] at hn; rcases hn with rfl | rfl | rfl | rfl | rfl <;> decide⟩
end Go.Proofs.YthbnigjckjkmnaaDoor.S

namespace Go.Proofs.YthbnigjckjkmnaaDoor.S
open Go.RowKit Go.Proofs.YthbnigjckjkmnaaDoorW.PrintWords Go.Proofs.YthbnigjckjkmnaaDoorW.PrintLast Go.Proofs.YthbnigjckjkmnaaDoorW.PrintMore Go.Proofs.YthbnigjckjkmnaaDoor.Pure
theorem ints_l0 (xs ys : List Int) (hl : xs.length ≤ 140737488351232) (he : xs.length = ys.length) (d : Nat) : ∀ i, i + d = xs.length → Ev (fun k => zAY.l0 k xs ys (i : Int)) (decide (xs.drop i = ys.drop i)) := by
  induction d with
  | zero =>
    intro i hi
    rw [List.drop_of_length_le (by omega), List.drop_of_length_le (by omega)]
    exact Ev.step (f := fun _ => some true) (fun k => by simp only [zAY.l0]; rw [if_neg (by omega)]) (Ev.now _)
  | succ d ih =>
    intro i hi
    have h : i < xs.length := by omega
    have h' : i < ys.length := by omega
    refine Ev.step (fun k => by simp only [zAY.l0]; rw [if_pos (by omega), if_pos (by omega), if_pos (by omega), rdI xs i h, rdI ys i h', w_up i (by omega)]) ?_
    rw [List.drop_eq_getElem_cons h, List.drop_eq_getElem_cons h']
    by_cases c : xs[i] = ys[i]
    · refine Ev.ifp c (Ev.both (ih (i + 1) (by omega)) ?_)
      simp only [List.cons.injEq, c, true_and]
    · refine Ev.ifn c (Ev.both (Ev.now _) ?_)
      simp only [List.cons.injEq, c, false_and, decide_false]
theorem ints_ev (xs ys : List Int) (hl : xs.length ≤ 140737488351232) : Ev (fun k => zAY.f k xs ys) (decide (xs = ys)) := by
  unfold zAY.f
  by_cases he : xs.length = ys.length
  · refine Ev.ifp (by omega) ?_
    have := ints_l0 xs ys hl he xs.length 0 (by omega)
    simpa using this
  · refine Ev.ifn (by omega) (Ev.both (Ev.now _) ?_)
    have : xs ≠ ys := fun e => he (by rw [e])
    simp [this]
def tierEq (a b : Tr) : Bool := a.f0 == b.f0 && a.f1 == b.f1
def dimEq (a b : Dm) : Bool := a.f0.toList == b.f0.toList && a.f1 == b.f1
def listEq {α : Type} (p : α → α → Bool) : List α → List α → Bool
  | [], [] => true
  | a :: xs, b :: ys => p a b && listEq p xs ys
  | _, _ => false
theorem listEq_len {α : Type} (p : α → α → Bool) : ∀ (xs ys : List α), xs.length ≠ ys.length → listEq p xs ys = false
  | [], [], h => absurd rfl h
  | [], _ :: _, _ => rfl
  | _ :: _, [], _ => rfl
  | a :: xs, b :: ys, h => by
    rw [listEq, listEq_len p xs ys (by simpa using h), Bool.and_false]
def nodeEq (a b : Nd) : Bool := a.f0 == b.f0 && (a.f1 == b.f1 && (a.f2 == b.f2 && (a.f3 == b.f3 && listEq tierEq a.f4 b.f4)))
def sameB (a0 : ByteArray) (l1 : List Dm) (a2 : Int) (l3 : List Nd) (b0 : ByteArray) (m1 : List Dm) (b2 : Int) (m3 : List Nd) : Bool :=
  a0.toList == b0.toList && (a2 == b2 && (listEq dimEq l1 m1 && listEq nodeEq l3 m3))
theorem eqTier_l0 (xs ys : List Tr) (hl : xs.length ≤ 140737488351232) (he : xs.length = ys.length) (d : Nat) : ∀ i, i + d = xs.length → Ev (fun k => zAc.l0 k xs ys (xs.length : Int) (i : Int)) (listEq tierEq (xs.drop i) (ys.drop i)) := by
  induction d with
  | zero =>
    intro i hi
    rw [List.drop_of_length_le (by omega), List.drop_of_length_le (by omega)]
    exact Ev.step (f := fun _ => some true) (fun k => by simp only [zAc.l0]; rw [if_neg (by omega)]) (Ev.now _)
  | succ d ih =>
    intro i hi
    have h : i < xs.length := by omega
    have h' : i < ys.length := by omega
    refine Ev.step (fun k => by simp only [zAc.l0]; rw [if_pos (by omega), if_pos (by omega), if_pos (by omega), if_pos (by omega), rdT xs i h, rdT ys i h', w_up i (by omega)]) ?_
    rw [List.drop_eq_getElem_cons h, List.drop_eq_getElem_cons h', listEq, tierEq]
    by_cases c : (!(xs[i].f0 == ys[i].f0) || !(xs[i].f1 == ys[i].f1)) = true
    · refine Ev.ifp c (Ev.both (Ev.now _) ?_)
      cases h1 : (xs[i].f0 == ys[i].f0) <;> cases h2 : (xs[i].f1 == ys[i].f1) <;> simp [h1, h2] at c ⊢
    · refine Ev.ifn c (Ev.both (ih (i + 1) (by omega)) ?_)
      cases h1 : (xs[i].f0 == ys[i].f0) <;> cases h2 : (xs[i].f1 == ys[i].f1) <;> simp [h1, h2] at c ⊢
theorem eqTier_ev (xs ys : List Tr) (hl : xs.length ≤ 140737488351232) : Ev (fun k => zAc.f k xs ys) (listEq tierEq xs ys) := by
  unfold zAc.f
  by_cases he : xs.length = ys.length
  · exact Ev.ifp (by omega) (by have := eqTier_l0 xs ys hl he xs.length 0 (by omega); simpa using this)
  · refine Ev.ifn (by omega) (Ev.both (Ev.now _) (listEq_len _ _ _ he).symm)
theorem eqDim_l0 (xs ys : List Dm) (hl : xs.length ≤ 140737488351232) (he : xs.length = ys.length) (d : Nat) : ∀ i, i + d = xs.length → Ev (fun k => slices_Equal_Dim.l0 k xs ys (xs.length : Int) (i : Int)) (listEq dimEq (xs.drop i) (ys.drop i)) := by
  induction d with
  | zero =>
    intro i hi
    rw [List.drop_of_length_le (by omega), List.drop_of_length_le (by omega)]
    exact Ev.step (f := fun _ => some true) (fun k => by simp only [slices_Equal_Dim.l0]; rw [if_neg (by omega)]) (Ev.now _)
  | succ d ih =>
    intro i hi
    have h : i < xs.length := by omega
    have h' : i < ys.length := by omega
    refine Ev.step (fun k => by simp only [slices_Equal_Dim.l0]; rw [if_pos (by omega), if_pos (by omega), if_pos (by omega), if_pos (by omega), rdD xs i h, rdD ys i h', w_up i (by omega)]) ?_
    rw [List.drop_eq_getElem_cons h, List.drop_eq_getElem_cons h', listEq, dimEq]
    by_cases c : (!(xs[i].f0.toList == ys[i].f0.toList) || !(xs[i].f1 == ys[i].f1)) = true
    · refine Ev.ifp c (Ev.both (Ev.now _) ?_)
      cases h1 : (xs[i].f0.toList == ys[i].f0.toList) <;> cases h2 : (xs[i].f1 == ys[i].f1) <;> simp [h1, h2] at c ⊢
    · refine Ev.ifn c (Ev.both (ih (i + 1) (by omega)) ?_)
      cases h1 : (xs[i].f0.toList == ys[i].f0.toList) <;> cases h2 : (xs[i].f1 == ys[i].f1) <;> simp [h1, h2] at c ⊢
theorem eqDim_ev (xs ys : List Dm) (hl : xs.length ≤ 140737488351232) : Ev (fun k => slices_Equal_Dim.f k xs ys) (listEq dimEq xs ys) := by
  unfold slices_Equal_Dim.f
  by_cases he : xs.length = ys.length
  · exact Ev.ifp (by omega) (by have := eqDim_l0 xs ys hl he xs.length 0 (by omega); simpa using this)
  · refine Ev.ifn (by omega) (Ev.both (Ev.now _) (listEq_len _ _ _ he).symm)
theorem same1_ev (a b : Nd) (hl : a.f4.length ≤ 140737488351232) : Ev (fun k => tree_Same_1.f k a.f0 a.f1 a.f2 a.f3 a.f4 a.f5 b.f0 b.f1 b.f2 b.f3 b.f4 b.f5) (nodeEq a b) := by
  unfold tree_Same_1.f nodeEq
  have h4 := eqTier_ev a.f4 b.f4 hl
  by_cases c0 : a.f0 = b.f0
  · refine Ev.ifp c0 ?_
    by_cases c1 : a.f1 = b.f1
    · refine Ev.ifp c1 ?_
      by_cases c2 : a.f2 = b.f2
      · refine Ev.ifp c2 ?_
        by_cases c3 : a.f3 = b.f3
        · refine Ev.ifp c3 (Ev.bind h4 (Ev.both (Ev.now _) ?_))
          simp [c0, c1, c2, c3]
        · exact Ev.ifn c3 (Ev.both (Ev.now _) (by simp [c3]))
      · exact Ev.ifn c2 (Ev.both (Ev.now _) (by simp [c2]))
    · exact Ev.ifn c1 (Ev.both (Ev.now _) (by simp [c1]))
  · exact Ev.ifn c0 (Ev.both (Ev.now _) (by simp [c0]))
theorem eqNL_ev (xs : List Nd) : ∀ ys : List Nd, xs.length = ys.length → (∀ n ∈ xs, n.f4.length ≤ 140737488351232) → Ev (fun k => eqNL k xs ys) (listEq nodeEq xs ys) := by
  induction xs with
  | nil =>
    intro ys he _
    cases ys with
    | nil => exact Ev.congr (f := fun _ => some true) (fun k => by simp [eqNL]) (Ev.now _)
    | cons b ys => simp at he
  | cons a xs ih =>
    intro ys he ht
    cases ys with
    | nil => simp at he
    | cons b ys =>
      refine Ev.congr (fun k => by simp only [eqNL]; rfl) ?_
      refine Ev.bind (same1_ev a b (ht a List.mem_cons_self)) ?_
      rw [listEq]
      cases hq : nodeEq a b with
      | true =>
        refine Ev.ifp rfl (Ev.both (ih ys (by simpa using he) (fun n hn => ht n (List.mem_cons_of_mem _ hn))) ?_)
        simp
      | false => exact Ev.ifn (by decide) (Ev.now _)
theorem same_ev (a0 : ByteArray) (l1 : List Dm) (a2 : Int) (l3 : List Nd) (b0 : ByteArray) (m1 : List Dm) (b2 : Int) (m3 : List Nd) (h1 : l1.length ≤ 140737488351232) (h3 : ∀ n ∈ l3, n.f4.length ≤ 140737488351232) :
    Ev (fun k => tree_Same.f k a0 l1 a2 l3 b0 m1 b2 m3) (sameB a0 l1 a2 l3 b0 m1 b2 m3) := by
  unfold tree_Same.f sameB
  by_cases c0 : (a0.toList == b0.toList) = true
  · refine Ev.ifp c0 ?_
    by_cases c2 : a2 = b2
    · refine Ev.ifp c2 (Ev.bind (eqDim_ev l1 m1 h1) ?_)
      rw [c0, show (a2 == b2) = true by simpa using c2, Bool.true_and, Bool.true_and]
      cases hd : listEq dimEq l1 m1 with
      | true =>
        refine Ev.ifp rfl ?_
        unfold eqNF
        by_cases he : l3.length = m3.length
        · exact Ev.ifp he (by rw [Bool.true_and]; exact eqNL_ev l3 m3 he h3)
        · exact Ev.ifn he (Ev.both (Ev.now _) (by rw [listEq_len _ _ _ he]; rfl))
      | false => exact Ev.ifn (by decide) (Ev.now _)
    · exact Ev.ifn c2 (Ev.both (Ev.now _) (by simp [c2]))
  · exact Ev.ifn c0 (Ev.both (Ev.now _) (by simp [show (a0.toList == b0.toList) = false by simpa using c0]))
theorem listEq_refl {α : Type} (p : α → α → Bool) (hp : ∀ a, p a a = true) : ∀ xs : List α, listEq p xs xs = true
  | [] => rfl
  | a :: xs => by rw [listEq, hp, listEq_refl p hp xs]; rfl
theorem tierEq_refl (a : Tr) : tierEq a a = true := by simp [tierEq]
theorem dimEq_refl (a : Dm) : dimEq a a = true := by simp [dimEq]
theorem nodeEq_refl (a : Nd) : nodeEq a a = true := by simp [nodeEq, listEq_refl tierEq tierEq_refl]
theorem sameB_refl (a0 : ByteArray) (l1 : List Dm) (a2 : Int) (l3 : List Nd) : sameB a0 l1 a2 l3 a0 l1 a2 l3 = true := by simp [sameB, listEq_refl dimEq dimEq_refl, listEq_refl nodeEq nodeEq_refl]
theorem five_frs : frs five = [0, 1, 0, 3, 0] := by decide +kernel
theorem plan_chk : chk (⟨#[112, 108, 97, 110]⟩ : ByteArray) [] 0 [] = (-1, 61) := by decide +kernel
theorem plan_PB : PB (⟨#[112, 108, 97, 110]⟩ : ByteArray) [] [] := ⟨by decide, by decide, by intro d hd; simp at hd, by decide, by intro n hn; simp at hn⟩
theorem awake_ev : Ev (fun k => zAb.f k) true := by
  unfold zAb.f octroilaw05_five.f
  refine Ev.pre rfl ?_
  have h1 := check_ev 0 five_PB
  have h2 := firsts_ev 0 five_PB
  have h3 := check_ev 0 plan_PB
  rw [five_chk] at h1 h2
  rw [plan_chk] at h3
  rw [if_pos rfl, five_frs] at h2
  refine Ev.bind h1 (Ev.bind h2 (Ev.bind h3 ?_))
  refine Ev.ifp rfl (Ev.ifp rfl (Ev.ifp rfl ?_))
  refine Ev.bind (ints_ev _ _ (by decide)) ?_
  refine Ev.ifp (by decide) (Ev.ifp rfl ?_)
  refine Ev.bind (same_ev _ _ _ _ _ _ _ _ (by decide) five_PB.tiers) (Ev.both (Ev.now _) ?_)
  exact sameB_refl _ _ _ _
end Go.Proofs.YthbnigjckjkmnaaDoor.S

namespace Go.Proofs.YthbnigjckjkmnaaDoor.S
open Go.RowKit Go.Proofs.YthbnigjckjkmnaaDoorW.PrintWords Go.Proofs.YthbnigjckjkmnaaDoorW.PrintLast Go.Proofs.YthbnigjckjkmnaaDoorW.PrintMore Go.Proofs.YthbnigjckjkmnaaDoor.Pure
def H : List Nd → Nat → Int
  | _, 0 => 0
  | [], _ + 1 => 0
  | n :: r, i + 1 => 1 - tkOf n + H r i
theorem H_zero (l : List Nd) : H l 0 = 0 := by cases l <;> rfl
theorem H_succ (l : List Nd) : ∀ (i : Nat) (h : i < l.length), H l (i + 1) = H l i + (1 - tkOf l[i]) := by
  induction l with
  | nil => intro i h; simp at h
  | cons n r ih =>
    intro i h
    cases i with
    | zero => simp [H, H_zero]
    | succ j =>
      have := ih j (by simpa using h)
      simp only [H, List.getElem_cons_succ] at this ⊢
      omega
structure Good (l : List Nd) (dims : Int) : Prop where
  ok : ∀ (i : Nat) (h : i < l.length), nodeErr l[i] dims (H l i) = 0
  one : H l l.length = 1
theorem good_of (dims : Int) (tot : Nat) (l : List Nd) : ∀ (r : List Nd) (i : Nat), l.drop i = r → i ≤ l.length → (∀ (t : Nat) (h : t < i) (h' : t < l.length), nodeErr l[t] dims (H l t) = 0) → checkL dims tot r i (H l i) = (0, 0) → Good l dims := by
  intro r
  induction r with
  | nil =>
    intro i hr hi ho hc
    have hl : i = l.length := by
      have := List.drop_eq_nil_iff.1 hr
      omega
    subst hl
    unfold checkL at hc
    split at hc
    · rename_i hp
      exact ⟨fun t h => ho t h h, hp⟩
    · simp at hc
  | cons n r ih =>
    intro i hr hi ho hc
    obtain ⟨h1, h2⟩ := checkL_step hc
    have hlt : i < l.length := by
      rcases Nat.lt_or_ge i l.length with h | h
      · exact h
      · rw [List.drop_of_length_le h] at hr; cases hr
    rw [List.drop_eq_getElem_cons hlt] at hr
    injection hr with e1 e2
    refine ih (i + 1) e2 hlt (fun t h h' => ?_) (by rw [H_succ l i hlt, e1]; exact h2)
    rcases Nat.lt_or_ge t i with q | q
    · exact ho t q h'
    · obtain rfl : t = i := by omega
      rw [e1]; exact h1
theorem good_chk {a0 : ByteArray} {l1 : List Dm} {a2 : Int} {l3 : List Nd} (h : (chk a0 l1 a2 l3).2 = 0) : Good l3 l1.length := by
  obtain ⟨_, _, hc, _⟩ := chk_ok h
  exact good_of l1.length l3.length l3 l3 0 rfl (by omega) (fun t h _ => absurd h (by omega)) (by rw [H_zero]; exact hc)
def Starts (l : List Nd) (i j : Nat) : Prop := j ≤ i ∧ H l j = H l (i + 1) - 1 ∧ ∀ s, j < s → s ≤ i → H l (i + 1) - 1 < H l s
theorem frL_spec {l : List Nd} {dims : Int} (g : Good l dims) : ∀ (r : List Nd) (i : Nat) (acc pile : List Int), l.drop i = r → i ≤ l.length → acc.length = i → (pile.length : Int) = H l i →
    (∀ (p : Nat) (h : p < pile.length), ∃ j : Nat, pile[p] = (j : Int) ∧ j < i ∧ H l j = p ∧ ∀ t, j < t → t ≤ i → (p : Int) < H l t) →
    (∀ (t : Nat) (h : t < acc.length), ∃ j : Nat, acc[t] = (j : Int) ∧ Starts l t j) →
    (frL r i acc pile).length = l.length ∧ ∀ (t : Nat) (h : t < (frL r i acc pile).length), ∃ j : Nat, (frL r i acc pile)[t] = (j : Int) ∧ Starts l t j := by
  intro r
  induction r with
  | nil =>
    intro i acc pile hr hi ha hp hP hQ
    have hl : l.length ≤ i := List.drop_eq_nil_iff.1 hr
    exact ⟨by rw [frL]; omega, fun t h => hQ t (by rw [frL] at h; exact h)⟩
  | cons n r ih =>
    intro i acc pile hr hi ha hp hP hQ
    have hlt : i < l.length := by
      rcases Nat.lt_or_ge i l.length with h | h
      · exact h
      · rw [List.drop_of_length_le h] at hr; cases hr
    rw [List.drop_eq_getElem_cons hlt] at hr
    injection hr with e1 e2
    obtain ⟨_, _, h3, h4⟩ := node_ok (g.ok i hlt)
    have hs := H_succ l i hlt
    rw [e1] at h3 h4 hs
    rw [frL]
    by_cases h0 : tkOf n > 0
    · rw [if_pos h0]
      obtain ⟨m, hm⟩ := Int.eq_ofNat_of_zero_le (show 0 ≤ (pile.length : Int) - tkOf n by omega)
      rw [hm, Int.toNat_natCast]
      have hml : m < pile.length := by omega
      obtain ⟨j, q1, q2, q3, q4⟩ := hP m hml
      have hg : pile.getD m 0 = (j : Int) := by rw [List.getD_eq_getElem?_getD, List.getElem?_eq_getElem hml]; exact q1
      rw [hg]
      have htk : (pile.take m).length = m := by rw [List.length_take]; omega
      refine ih (i + 1) _ _ e2 hlt (by simp; omega) (by simp only [List.length_append, htk, List.length_cons, List.length_nil]; omega) ?_ ?_
      · intro p hp'
        have hp2 : p < m + 1 := by simp only [List.length_append, htk, List.length_cons, List.length_nil] at hp'; omega
        rcases Nat.lt_or_ge p m with c | c
        · obtain ⟨j', w1, w2, w3, w4⟩ := hP p (by omega)
          refine ⟨j', ?_, by omega, w3, fun t a b => ?_⟩
          · rw [List.getElem_append_left (by rw [htk]; exact c), List.getElem_take]; exact w1
          · rcases Nat.lt_or_ge i t with d | d
            · obtain rfl : t = i + 1 := by omega
              omega
            · exact w4 t a d
        · obtain rfl : p = m := by omega
          refine ⟨j, ?_, by omega, q3, fun t a b => ?_⟩
          · rw [List.getElem_append_right (by rw [htk]; exact Nat.le_refl _)]; simp [htk]
          · rcases Nat.lt_or_ge i t with d | d
            · obtain rfl : t = i + 1 := by omega
              omega
            · exact q4 t a d
      · intro t ht
        rcases Nat.lt_or_ge t acc.length with c | c
        · obtain ⟨j', w1, w2⟩ := hQ t c
          exact ⟨j', by rw [List.getElem_append_left c]; exact w1, w2⟩
        · obtain rfl : t = i := by simp at ht; omega
          refine ⟨j, by rw [List.getElem_append_right c]; simp, by omega, by omega, fun s a b => ?_⟩
          have := q4 s a b
          omega
    · rw [if_neg h0]
      have hz : tkOf n = 0 := by omega
      refine ih (i + 1) _ _ e2 hlt (by simp; omega) (by simp; omega) ?_ ?_
      · intro p hp'
        rcases Nat.lt_or_ge p pile.length with c | c
        · obtain ⟨j', w1, w2, w3, w4⟩ := hP p c
          refine ⟨j', by rw [List.getElem_append_left c]; exact w1, by omega, w3, fun t a b => ?_⟩
          rcases Nat.lt_or_ge i t with d | d
          · obtain rfl : t = i + 1 := by omega
            omega
          · exact w4 t a d
        · obtain rfl : p = pile.length := by simp at hp'; omega
          refine ⟨i, by rw [List.getElem_append_right c]; simp, by omega, by omega, fun t a b => ?_⟩
          obtain rfl : t = i + 1 := by omega
          omega
      · intro t ht
        rcases Nat.lt_or_ge t acc.length with c | c
        · obtain ⟨j', w1, w2⟩ := hQ t c
          exact ⟨j', by rw [List.getElem_append_left c]; exact w1, w2⟩
        · obtain rfl : t = i := by simp at ht; omega
          exact ⟨t, by rw [List.getElem_append_right c]; simp, by omega, by omega, fun s a b => absurd b (by omega)⟩
theorem frs_spec {l : List Nd} {dims : Int} (g : Good l dims) : (frs l).length = l.length ∧ ∀ (t : Nat) (h : t < (frs l).length), ∃ j : Nat, (frs l)[t] = (j : Int) ∧ Starts l t j :=
  frL_spec g l 0 [] [] rfl (by omega) rfl (by rw [H_zero]; rfl) (fun p h => absurd h (by simp)) (fun t h => absurd h (by simp))
def seg (l : List Nd) (i j : Nat) : List Nd := (l.take (i + 1)).drop j
theorem seg_len (l : List Nd) (i j : Nat) (h : i < l.length) : (seg l i j).length = i + 1 - j := by simp [seg]; omega
theorem seg_mem (l : List Nd) (i j : Nat) : ∀ n ∈ seg l i j, n ∈ l := fun n hn => List.mem_of_mem_take (List.mem_of_mem_drop hn)
end Go.Proofs.YthbnigjckjkmnaaDoor.S

namespace Go.Proofs.YthbnigjckjkmnaaDoor.S
open Go.RowKit Go.Proofs.YthbnigjckjkmnaaDoorW.PrintWords Go.Proofs.YthbnigjckjkmnaaDoorW.PrintLast Go.Proofs.YthbnigjckjkmnaaDoorW.PrintMore Go.Proofs.YthbnigjckjkmnaaDoor.Pure
theorem rnode_l0 (a b : Nd) (hl : a.f4.length ≤ 140737488351232) (he : a.f4.length = b.f4.length) (d : Nat) : ∀ i, i + d = a.f4.length →
    Ev (fun k => zAP.l0 k (i : Int) a.f0 a.f1 a.f2 a.f3 a.f4 a.f5 b.f0 b.f1 b.f2 b.f3 b.f4 b.f5) (listEq tierEq (a.f4.drop i) (b.f4.drop i)) := by
  induction d with
  | zero =>
    intro i hi
    rw [List.drop_of_length_le (by omega), List.drop_of_length_le (by omega)]
    exact Ev.step (f := fun _ => some true) (fun k => by simp only [zAP.l0]; rw [if_neg (by omega)]) (Ev.now _)
  | succ d ih =>
    intro i hi
    have h : i < a.f4.length := by omega
    have h' : i < b.f4.length := by omega
    refine Ev.step (fun k => by simp only [zAP.l0]; rw [if_pos (by omega), if_pos (by omega), if_pos (by omega), rdT _ i h, rdT _ i h', w_up i (by omega)]) ?_
    rw [List.drop_eq_getElem_cons h, List.drop_eq_getElem_cons h', listEq, tierEq]
    by_cases c : (!(a.f4[i].f0 == b.f4[i].f0) || !(a.f4[i].f1 == b.f4[i].f1)) = true
    · refine Ev.ifp c (Ev.both (Ev.now _) ?_)
      cases h1 : (a.f4[i].f0 == b.f4[i].f0) <;> cases h2 : (a.f4[i].f1 == b.f4[i].f1) <;> simp [h1, h2] at c ⊢
    · refine Ev.ifn c (Ev.both (ih (i + 1) (by omega)) ?_)
      cases h1 : (a.f4[i].f0 == b.f4[i].f0) <;> cases h2 : (a.f4[i].f1 == b.f4[i].f1) <;> simp [h1, h2] at c ⊢
theorem rnode_ev (a b : Nd) (hl : a.f4.length ≤ 140737488351232) : Ev (fun k => zAP.f k a.f0 a.f1 a.f2 a.f3 a.f4 a.f5 b.f0 b.f1 b.f2 b.f3 b.f4 b.f5) (nodeEq a b) := by
  have hbad : Ev (fun k => zAP.j0 k true a.f0 a.f1 a.f2 a.f3 a.f4 a.f5 b.f0 b.f1 b.f2 b.f3 b.f4 b.f5) false := by
    refine Ev.step (fun k => by simp only [zAP.j0]; rfl) ?_
    exact Ev.ifp trivial (Ev.now _)
  unfold zAP.f nodeEq
  by_cases c0 : a.f0 = b.f0
  · refine Ev.ifp c0 ?_
    by_cases c1 : a.f1 = b.f1
    · refine Ev.ifp c1 ?_
      by_cases c2 : a.f2 = b.f2
      · refine Ev.ifp c2 ?_
        by_cases c3 : a.f3 = b.f3
        · refine Ev.ifp c3 ?_
          by_cases he : a.f4.length = b.f4.length
          · have := rnode_l0 a b hl he a.f4.length 0 (by omega)
            refine Ev.step (fun k => by simp only [zAP.j0]; rfl) (Ev.ifn (by simp [he]) (Ev.both this ?_))
            simp [c0, c1, c2, c3]
          · rw [show ((a.f4.length : Int) != (b.f4.length : Int)) = true by simp; omega]
            exact Ev.both hbad (by rw [listEq_len _ _ _ he]; simp)
        · exact Ev.ifn c3 (Ev.both hbad (by simp [c3]))
      · exact Ev.ifn c2 (Ev.both hbad (by simp [c2]))
    · exact Ev.ifn c1 (Ev.both hbad (by simp [c1]))
  · exact Ev.ifn c0 (Ev.both hbad (by simp [c0]))
theorem rsame_l1 (a0 : ByteArray) (l1 : List Dm) (a2 : Int) (l3 : List Nd) (b0 : ByteArray) (m1 : List Dm) (b2 : Int) (m3 : List Nd) (hl : l3.length ≤ 140737488351232) (he : l3.length = m3.length) (ht : ∀ n ∈ l3, n.f4.length ≤ 140737488351232) (d : Nat) : ∀ i, i + d = l3.length →
    Ev (fun k => zAH.l1 k (i : Int) a0 l1 a2 l3 b0 m1 b2 m3) (listEq nodeEq (l3.drop i) (m3.drop i)) := by
  induction d with
  | zero =>
    intro i hi
    rw [List.drop_of_length_le (by omega), List.drop_of_length_le (by omega)]
    exact Ev.step (f := fun _ => some true) (fun k => by simp only [zAH.l1]; rw [if_neg (by omega)]) (Ev.now _)
  | succ d ih =>
    intro i hi
    have h : i < l3.length := by omega
    have h' : i < m3.length := by omega
    refine Ev.step (fun k => by simp only [zAH.l1]; rw [if_pos (by omega), if_pos (by omega), if_pos (by omega), rdN _ i h, rdN _ i h', w_up i (by omega)]) ?_
    rw [List.drop_eq_getElem_cons h, List.drop_eq_getElem_cons h', listEq]
    refine Ev.bind (rnode_ev _ _ (ht _ (List.getElem_mem h))) ?_
    cases hq : nodeEq l3[i] m3[i] with
    | true => exact Ev.ifp rfl (Ev.both (ih (i + 1) (by omega)) (by simp))
    | false => exact Ev.ifn (by decide) (Ev.now _)
theorem rsame_l0 (a0 : ByteArray) (l1 : List Dm) (a2 : Int) (l3 : List Nd) (b0 : ByteArray) (m1 : List Dm) (b2 : Int) (m3 : List Nd) (hl : l1.length ≤ 140737488351232) (he : l1.length = m1.length) (nx : Bool) (hn : Ev (fun k => zAH.l1 k ((0 : Nat) : Int) a0 l1 a2 l3 b0 m1 b2 m3) nx) (d : Nat) : ∀ i, i + d = l1.length →
    Ev (fun k => zAH.l0 k (i : Int) a0 l1 a2 l3 b0 m1 b2 m3) (listEq dimEq (l1.drop i) (m1.drop i) && nx) := by
  induction d with
  | zero =>
    intro i hi
    rw [List.drop_of_length_le (by omega), List.drop_of_length_le (by omega)]
    refine Ev.step (f := fun k => zAH.l1 k ((0 : Nat) : Int) a0 l1 a2 l3 b0 m1 b2 m3) (fun k => by simp only [zAH.l0]; rw [if_neg (by omega)]; rfl) (Ev.both hn (by simp [listEq]))
  | succ d ih =>
    intro i hi
    have h : i < l1.length := by omega
    have h' : i < m1.length := by omega
    refine Ev.step (fun k => by simp only [zAH.l0]; rw [if_pos (by omega), if_pos (by omega), if_pos (by omega), rdD _ i h, rdD _ i h', w_up i (by omega)]) ?_
    rw [List.drop_eq_getElem_cons h, List.drop_eq_getElem_cons h', listEq, dimEq]
    by_cases c : (!(l1[i].f0.toList == m1[i].f0.toList) || !(l1[i].f1 == m1[i].f1)) = true
    · refine Ev.ifp c (Ev.both (Ev.now _) ?_)
      cases h1 : (l1[i].f0.toList == m1[i].f0.toList) <;> cases h2 : (l1[i].f1 == m1[i].f1) <;> simp [h1, h2] at c ⊢
    · refine Ev.ifn c (Ev.both (ih (i + 1) (by omega)) ?_)
      cases h1 : (l1[i].f0.toList == m1[i].f0.toList) <;> cases h2 : (l1[i].f1 == m1[i].f1) <;> simp [h1, h2] at c ⊢
theorem rsame_ev (a0 : ByteArray) (l1 : List Dm) (a2 : Int) (l3 : List Nd) (b0 : ByteArray) (m1 : List Dm) (b2 : Int) (m3 : List Nd) (h1 : l1.length ≤ 140737488351232) (hl : l3.length ≤ 140737488351232) (h3 : ∀ n ∈ l3, n.f4.length ≤ 140737488351232) :
    Ev (fun k => zAH.f k a0 l1 a2 l3 b0 m1 b2 m3) (sameB a0 l1 a2 l3 b0 m1 b2 m3) := by
  have hbad : Ev (fun k => zAH.j0 k true a0 l1 a2 l3 b0 m1 b2 m3) false := by
    refine Ev.step (fun k => by simp only [zAH.j0]; rfl) ?_
    exact Ev.ifp trivial (Ev.now _)
  unfold zAH.f sameB
  by_cases c0 : a0.toList = b0.toList
  · refine Ev.ifp c0 ?_
    by_cases c2 : a2 = b2
    · refine Ev.ifp c2 ?_
      by_cases e1 : l1.length = m1.length
      · refine Ev.ifp (by omega) ?_
        by_cases e3 : l3.length = m3.length
        · rw [show ((l3.length : Int) != (m3.length : Int)) = false by simp [e3]]
          have n1 := rsame_l1 a0 l1 a2 l3 b0 m1 b2 m3 hl e3 h3 l3.length 0 (by omega)
          have n0 := rsame_l0 a0 l1 a2 l3 b0 m1 b2 m3 h1 e1 _ n1 l1.length 0 (by omega)
          refine Ev.step (fun k => by simp only [zAH.j0]; rfl) (Ev.ifn (by decide) (Ev.both n0 ?_))
          simp [c0, c2]
        · rw [show ((l3.length : Int) != (m3.length : Int)) = true by simp; omega]
          exact Ev.both hbad (by rw [listEq_len _ l3 m3 e3]; simp)
      · exact Ev.ifn (by omega) (Ev.both hbad (by rw [listEq_len _ l1 m1 e1]; simp))
    · exact Ev.ifn c2 (Ev.both hbad (by simp [c2]))
  · exact Ev.ifn c0 (Ev.both hbad (by simp [c0]))
end Go.Proofs.YthbnigjckjkmnaaDoor.S
