/- What the proof needs, part 12 of 18. Two plans with types, put together under a node that takes two, have the types of both and money; multiplied they have none; with a number ahead they have. For every two plans that the card lets in. -/
import Derived.Test.YthbnigjckjkmnaaDoorBUnitsGrow5
import Derived.Test.YthbnigjckjkmnaaDoorBUnitsGrow6
import Derived.Test.YthbnigjckjkmnaaDoorBUnitsGrow9
import Derived.Test.YthbnigjckjkmnaaDoorBUnitsGrow11
import Derived.Test.YthbnigjckjkmnaaDoorBUnitsGrow7
set_option linter.unusedVariables false
set_option linter.unusedSimpArgs false
namespace Go.Proofs.YthbnigjckjkmnaaDoor.S
open Go.RowKit Go.Proofs.YthbnigjckjkmnaaDoorW.PrintWords Go.Proofs.YthbnigjckjkmnaaDoorW.PrintLast Go.Proofs.YthbnigjckjkmnaaDoorW.PrintMore
attribute [local go_sem] max2_int min2_int max_two min_two max_three min_three max_four min_four
def scan_Word.f (a0:ByteArray):Option (Bool):=if a0.toList=([]:List UInt8) then (some false) else ((scan_run_letter.f a0).bind fun t108=>(if t108=(a0.size:Int) then (if 1+a0.size≤9223372036854775807 then (if ((⟨#[32]⟩:ByteArray) ++ a0).size+1≤9223372036854775807 then ((strings_Contains.f (⟨#[32,112,108,97,110,32,114,111,117,110,100,32,98,121,32,98,108,111,99,107,115,32,109,105,110,32,109,97,120,32,111,118,101,114,32,117,112,116,111,32,103,114,97,100,117,97,116,101,100,32,118,111,108,117,109,101,32,111,102,102,32,105,102,32,102,108,111,111,114,32,99,101,105,108,32,122,101,114,111,32,104,97,108,102,32,101,118,101,110,32]⟩:ByteArray) (((⟨#[32]⟩:ByteArray) ++ a0) ++ (⟨#[32]⟩:ByteArray))).bind fun t109=>(some t109)) else (none)) else (none)) else (some false)))
set_option maxHeartbeats 8000000 in
set_option maxRecDepth 100000 in
theorem scan_Word.calls (a0:ByteArray) (r:Bool) (w:World) (hG:GW w) (h:scan_Word.f a0=some r) :
  Calls Tryd.prog 79 #[.string a0] w fun e w'=>e = .returned (.bool r)∧Drawn0 w w':=by
 have H:(if a0.toList=([]:List UInt8) then (some false) else ((scan_run_letter.f a0).bind fun t108=>(if t108=(a0.size:Int) then (if 1+a0.size≤9223372036854775807 then (if ((⟨#[32]⟩:ByteArray) ++ a0).size+1≤9223372036854775807 then ((strings_Contains.f (⟨#[32,112,108,97,110,32,114,111,117,110,100,32,98,121,32,98,108,111,99,107,115,32,109,105,110,32,109,97,120,32,111,118,101,114,32,117,112,116,111,32,103,114,97,100,117,97,116,101,100,32,118,111,108,117,109,101,32,111,102,102,32,105,102,32,102,108,111,111,114,32,99,101,105,108,32,122,101,114,111,32,104,97,108,102,32,101,118,101,110,32]⟩:ByteArray) (((⟨#[32]⟩:ByteArray) ++ a0) ++ (⟨#[32]⟩:ByteArray))).bind fun t109=>(some t109)) else (none)) else (none)) else (some false))))=some r:=h
 clear h
 by_cases c2:a0.toList=([]:List UInt8)
 ·rw [if_pos c2] at H
  have c2b0:(a0.toList == ([]:List UInt8))=true:=beq_iff_eq.mpr c2
  have c2b1:(a0.toList != ([]:List UInt8))=false:=bne_eq_false_iff_eq.mpr c2
  clear c2
  obtain rfl:=Option.some.inj H
  go_enter Tryd.func79,Tryd.ntmps79
  go_wp2
  go_ret
  exact ⟨by first|rfl|(simp;done)|(simp [*];done),by repeat (first|exact Drawn0.refl _|apply Drawn0.step)⟩
 rw [if_neg c2] at H
 have c2b0:(a0.toList == ([]:List UInt8))=false:=beq_eq_false_iff_ne.mpr c2
 have c2b1:(a0.toList != ([]:List UInt8))=true:=bne_iff_ne.mpr c2
 replace H:=Option.bind_eq_some_iff.mp H
 obtain ⟨t108,A30,H⟩:=H
 replace H:(if t108=(a0.size:Int) then (if 1+a0.size≤9223372036854775807 then (if ((⟨#[32]⟩:ByteArray) ++ a0).size+1≤9223372036854775807 then ((strings_Contains.f (⟨#[32,112,108,97,110,32,114,111,117,110,100,32,98,121,32,98,108,111,99,107,115,32,109,105,110,32,109,97,120,32,111,118,101,114,32,117,112,116,111,32,103,114,97,100,117,97,116,101,100,32,118,111,108,117,109,101,32,111,102,102,32,105,102,32,102,108,111,111,114,32,99,101,105,108,32,122,101,114,111,32,104,97,108,102,32,101,118,101,110,32]⟩:ByteArray) (((⟨#[32]⟩:ByteArray) ++ a0) ++ (⟨#[32]⟩:ByteArray))).bind fun t109=>(some t109)) else (none)) else (none)) else (some false))=some r:=H
 have A3:=aK_ A30
 clear A30
 by_cases c4:t108=(a0.size:Int)
 rotate_left
 ·rw [if_neg c4] at H
  have c4b0:(t108 == (a0.size:Int))=false:=beq_eq_false_iff_ne.mpr c4
  have c4b1:(t108 != (a0.size:Int))=true:=bne_iff_ne.mpr c4
  obtain rfl:=Option.some.inj H
  go_enter Tryd.func79,Tryd.ntmps79
  go_wp2_with (first|(go_at_call 77;(with_reducible refine (scan_run_letter.calls a0 t108 _ A3.out).mono ?_);rintro e w' ⟨rfl,⟨nd,rfl⟩⟩))
  go_ret
  exact ⟨by first|rfl|(simp;done)|(simp [*];done),by repeat (first|exact Drawn0.refl _|apply Drawn0.step)⟩
 rw [if_pos c4] at H
 have c4b0:(t108 == (a0.size:Int))=true:=beq_iff_eq.mpr c4
 have c4b1:(t108 != (a0.size:Int))=false:=bne_eq_false_iff_eq.mpr c4
 clear c4
 have c5:=yes_ H
 rw [if_pos c5] at H
 have c5b0:=eq_true c5
 have c5b1:decide (1+a0.size≤9223372036854775807)=true:=decide_eq_true c5
 try have c5b2:(9223372036854775807<1+a0.size)=False:=eq_false (Nat.not_lt.2 c5)
 have c6:=yes_ H
 rw [if_pos c6] at H
 have c6s:1+a0.size+1≤9223372036854775807:=by
  have h_:=c6
  rw [ByteArray.size_append] at h_
  exact h_
 have c6b0:=eq_true c6
 have c6b1:decide (((⟨#[32]⟩:ByteArray) ++ a0).size+1≤9223372036854775807)=true:=decide_eq_true c6
 try have c6b2:(9223372036854775807<((⟨#[32]⟩:ByteArray) ++ a0).size+1)=False:=eq_false (Nat.not_lt.2 c6)
 replace H:=Option.bind_eq_some_iff.mp H
 obtain ⟨t109,A70,H⟩:=H
 replace H:(some t109)=some r:=H
 have A7:=aK_ A70
 clear A70
 obtain rfl:=Option.some.inj H
 go_enter Tryd.func79,Tryd.ntmps79
 go_wp2_with (first|(go_at_call 77;(with_reducible refine (scan_run_letter.calls a0 t108 _ A3.out).mono ?_);rintro e w' ⟨rfl,⟨nd,rfl⟩⟩)|(go_at_call 87;(refine (strings_Contains.calls (⟨#[32,112,108,97,110,32,114,111,117,110,100,32,98,121,32,98,108,111,99,107,115,32,109,105,110,32,109,97,120,32,111,118,101,114,32,117,112,116,111,32,103,114,97,100,117,97,116,101,100,32,118,111,108,117,109,101,32,111,102,102,32,105,102,32,102,108,111,111,114,32,99,101,105,108,32,122,101,114,111,32,104,97,108,102,32,101,118,101,110,32]⟩:ByteArray) (((⟨#[32]⟩:ByteArray) ++ a0) ++ (⟨#[32]⟩:ByteArray)) t109 _ ?side1 A7.out).mono ?_);(case side1=>(first|(with_reducible exact hG)|((repeat (with_reducible first|exact hG|apply GW.drewN|apply GW.drew|apply GW.alloc));done)|exact GW.below hG (aH_ HB.out)));rintro e w' ⟨rfl,⟨nd,rfl⟩⟩))
 go_ret
 exact ⟨by first|rfl|(simp;done)|(simp [*];done),by repeat (first|exact Drawn0.refl _|apply Drawn0.step)⟩
end Go.Proofs.YthbnigjckjkmnaaDoor.S

namespace Go.Proofs.YthbnigjckjkmnaaDoor.S
open Go.RowKit Go.Proofs.YthbnigjckjkmnaaDoorW.PrintWords Go.Proofs.YthbnigjckjkmnaaDoorW.PrintLast Go.Proofs.YthbnigjckjkmnaaDoorW.PrintMore
attribute [local go_sem] max2_int min2_int max_two min_two max_three min_three max_four min_four
def scan_Name.f (a0:ByteArray):Option (Bool):=if a0.toList=([]:List UInt8) then (some false) else (if (a0.size:Int)≤32 then (if 0<(a0.size:Int) then ((scan_letter.f (bt a0 0)).bind fun t110=>(if t110=true then ((scan_run_inner.f a0).bind fun t111=>(if t111=(a0.size:Int) then ((scan_Word.f a0).bind fun t112=>(some (!t112))) else (some false))) else (some false))) else (none)) else (some false))
set_option maxHeartbeats 8000000 in
set_option maxRecDepth 100000 in
theorem scan_Name.calls (a0:ByteArray) (r:Bool) (w:World) (hG:GW w) (h:scan_Name.f a0=some r) :
  Calls Tryd.prog 55 #[.string a0] w fun e w'=>e = .returned (.bool r)∧Drawn0 w w':=by
 have H:(if a0.toList=([]:List UInt8) then (some false) else (if (a0.size:Int)≤32 then (if 0<(a0.size:Int) then ((scan_letter.f (bt a0 0)).bind fun t110=>(if t110=true then ((scan_run_inner.f a0).bind fun t111=>(if t111=(a0.size:Int) then ((scan_Word.f a0).bind fun t112=>(some (!t112))) else (some false))) else (some false))) else (none)) else (some false)))=some r:=h
 clear h
 by_cases c2:a0.toList=([]:List UInt8)
 ·rw [if_pos c2] at H
  have c2b0:(a0.toList == ([]:List UInt8))=true:=beq_iff_eq.mpr c2
  have c2b1:(a0.toList != ([]:List UInt8))=false:=bne_eq_false_iff_eq.mpr c2
  clear c2
  obtain rfl:=Option.some.inj H
  go_enter Tryd.func55,Tryd.ntmps55
  go_wp2
  go_ret
  exact ⟨by first|rfl|(simp;done)|(simp [*];done),by repeat (first|exact Drawn0.refl _|apply Drawn0.step)⟩
 rw [if_neg c2] at H
 have c2b0:(a0.toList == ([]:List UInt8))=false:=beq_eq_false_iff_ne.mpr c2
 have c2b1:(a0.toList != ([]:List UInt8))=true:=bne_iff_ne.mpr c2
 by_cases c3:(a0.size:Int)≤32
 rotate_left
 ·rw [if_neg c3] at H
  have c3b0:decide ((a0.size:Int)≤32)=false:=decide_eq_false c3
  have c3b1:decide (a0.size≤32)=false:=decide_eq_false (by omega)
  clear c3
  obtain rfl:=Option.some.inj H
  go_enter Tryd.func55,Tryd.ntmps55
  go_wp2
  go_ret
  exact ⟨by first|rfl|(simp;done)|(simp [*];done),by repeat (first|exact Drawn0.refl _|apply Drawn0.step)⟩
 rw [if_pos c3] at H
 have c3b0:decide ((a0.size:Int)≤32)=true:=decide_eq_true c3
 have c3b1:decide (a0.size≤32)=true:=decide_eq_true (by omega)
 clear c3
 have c4:=yes_ H
 rw [if_pos c4] at H
 have c4b0:decide (0<(a0.size:Int))=true:=decide_eq_true c4
 have c4b1:decide (0<a0.size)=true:=decide_eq_true (by omega)
 clear c4
 replace H:=Option.bind_eq_some_iff.mp H
 obtain ⟨t110,A60,H⟩:=H
 replace H:(if t110=true then ((scan_run_inner.f a0).bind fun t111=>(if t111=(a0.size:Int) then ((scan_Word.f a0).bind fun t112=>(some (!t112))) else (some false))) else (some false))=some r:=H
 have A6:=aK_ A60
 clear A60
 by_cases c7:t110=true
 rotate_left
 ·replace c7:=Bool.eq_false_iff.mpr c7
  subst c7
  have H1:(some false)=some r:=by rw [if_neg (show ¬ (false=true) by decide)] at H;exact H
  clear H
  have H:=H1
  clear H1
  obtain rfl:=Option.some.inj H
  have p5:0≤(0:Int):=(by omega)
  have q5:0<a0.size:=(by have:(0:Int)<(a0.size:Int):=aD_;omega)
  have hx5:∀ h:0<a0.size,((a0[0]'h).toNat:Int)=bt a0 0:=bt_at a0 0
  clear p5
  have qi5:(0<(a0.size:Int))=True:=eq_true aD_
  replace q5:=eq_true q5
  go_enter Tryd.func55,Tryd.ntmps55
  go_wp2_with (first|(go_at_call 76;(with_reducible refine (scan_letter.calls (bt a0 0) false _ A6.out).mono ?_);rintro e w' ⟨rfl,⟨nd,rfl⟩⟩))
  go_ret
  exact ⟨by first|rfl|(simp;done)|(simp [*];done),by repeat (first|exact Drawn0.refl _|apply Drawn0.step)⟩
 subst c7
 have H1:((scan_run_inner.f a0).bind fun t111=>(if t111=(a0.size:Int) then ((scan_Word.f a0).bind fun t112=>(some (!t112))) else (some false)))=some r:=by rw [if_pos rfl] at H;exact H
 clear H
 have H:=H1
 clear H1
 replace H:=Option.bind_eq_some_iff.mp H
 obtain ⟨t111,A80,H⟩:=H
 replace H:(if t111=(a0.size:Int) then ((scan_Word.f a0).bind fun t112=>(some (!t112))) else (some false))=some r:=H
 have A8:=aK_ A80
 clear A80
 by_cases c9:t111=(a0.size:Int)
 rotate_left
 ·rw [if_neg c9] at H
  have c9b0:(t111 == (a0.size:Int))=false:=beq_eq_false_iff_ne.mpr c9
  have c9b1:(t111 != (a0.size:Int))=true:=bne_iff_ne.mpr c9
  obtain rfl:=Option.some.inj H
  have p5:0≤(0:Int):=(by omega)
  have q5:0<a0.size:=(by have:(0:Int)<(a0.size:Int):=aD_;omega)
  have hx5:∀ h:0<a0.size,((a0[0]'h).toNat:Int)=bt a0 0:=bt_at a0 0
  clear p5
  have qi5:(0<(a0.size:Int))=True:=eq_true aD_
  replace q5:=eq_true q5
  go_enter Tryd.func55,Tryd.ntmps55
  go_wp2_with (first|(go_at_call 76;(with_reducible refine (scan_letter.calls (bt a0 0) true _ A6.out).mono ?_);rintro e w' ⟨rfl,⟨nd,rfl⟩⟩)|(go_at_call 77;(with_reducible refine (scan_run_inner.calls a0 t111 _ A8.out).mono ?_);rintro e w' ⟨rfl,⟨nd,rfl⟩⟩))
  go_ret
  exact ⟨by first|rfl|(simp;done)|(simp [*];done),by repeat (first|exact Drawn0.refl _|apply Drawn0.step)⟩
 rw [if_pos c9] at H
 have c9b0:(t111 == (a0.size:Int))=true:=beq_iff_eq.mpr c9
 have c9b1:(t111 != (a0.size:Int))=false:=bne_eq_false_iff_eq.mpr c9
 clear c9
 replace H:=Option.bind_eq_some_iff.mp H
 obtain ⟨t112,A100,H⟩:=H
 replace H:(some (!t112))=some r:=H
 have A10:=aK_ A100
 clear A100
 obtain rfl:=Option.some.inj H
 have p5:0≤(0:Int):=(by omega)
 have q5:0<a0.size:=(by have:(0:Int)<(a0.size:Int):=aD_;omega)
 have hx5:∀ h:0<a0.size,((a0[0]'h).toNat:Int)=bt a0 0:=bt_at a0 0
 clear p5
 have qi5:(0<(a0.size:Int))=True:=eq_true aD_
 replace q5:=eq_true q5
 go_enter Tryd.func55,Tryd.ntmps55
 go_wp2_with (first|(go_at_call 76;(with_reducible refine (scan_letter.calls (bt a0 0) true _ A6.out).mono ?_);rintro e w' ⟨rfl,⟨nd,rfl⟩⟩)|(go_at_call 77;(with_reducible refine (scan_run_inner.calls a0 t111 _ A8.out).mono ?_);rintro e w' ⟨rfl,⟨nd,rfl⟩⟩)|(go_at_call 79;(with_reducible refine (scan_Word.calls a0 t112 _ ?side1 A10.out).mono ?_);(case side1=>(first|(with_reducible exact hG)|((repeat (with_reducible first|exact hG|apply GW.drewN|apply GW.drew|apply GW.alloc));done)|exact GW.below hG (aH_ HB.out)));rintro e w' ⟨rfl,⟨nd,rfl⟩⟩))
 go_ret
 exact ⟨by first|rfl|(simp;done)|(simp [*];done),by repeat (first|exact Drawn0.refl _|apply Drawn0.step)⟩
end Go.Proofs.YthbnigjckjkmnaaDoor.S

namespace Go.Proofs.YthbnigjckjkmnaaDoor.S
open Go.RowKit Go.Proofs.YthbnigjckjkmnaaDoorW.PrintWords
def idxL (nm : ByteArray) : List (S47) → Int → Int
  | [], _ => -1
  | d :: rest, n => if (d.f0.toList == nm.toList) = true then n else idxL nm rest (n + 1)
theorem idxL_drop (nm : ByteArray) (xs : List (S47)) (i : Nat) (h : i < xs.length) : idxL nm (xs.drop i) i = if ((rd_T47 xs i).f0.toList == nm.toList) = true then (i : Int) else idxL nm (xs.drop (i + 1)) ((i + 1 : Nat) : Int) := by
  rw [List.drop_eq_getElem_cons h, idxL]
  have : rd_T47 xs i = xs[i] := by simp [rd_T47, List.getD_eq_getElem?_getD, List.getElem?_eq_getElem h]
  rw [this]
  rfl
set_option maxHeartbeats 1000000 in
set_option maxRecDepth 100000 in
theorem ahead_any (a nm : ByteArray) (n : Int) (p : Addr) (w : World) (hp : w.cell? p = some (.string nm)) :
    Calls Tryd.prog 56 #[.agg #[.string a, .int .i64 n], .pointer (some p)] w fun e w' => e = .returned (.bool (a.toList == nm.toList)) ∧ Below w.heap.size w w' := by
  have g0 := fun o => zAJ (zAF (Below.refl w.heap.size w) o) hp
  clear hp
  go_enter Tryd.func56, Tryd.ntmps56
  go_wp2
  go_ret
  exact ⟨rfl, zAF (Below.refl _ _) _⟩
set_option maxHeartbeats 4000000 in
set_option maxRecDepth 100000 in
theorem index_any (A0 : Option Addr) (c0 : Nat) (l0 : List (S47)) (nm : ByteArray) (p : Addr) (w : World) (hr0 : Kd.C k47 w A0 l0.length l0) (hc0 : l0.length ≤ c0) (hp : w.cell? p = some (.string nm)) :
    Calls Tryd.prog 80 #[.slice A0 l0.length c0, .func (.func 56) #[] #[.pointer (some p)]] w fun e w' => e = .returned (.int .i64 (idxL nm l0 0)) ∧ Below w.heap.size w w' := by
  have hm := hr0.2.1
  have HR := aK_ hr0
  have HC := aK_ hc0
  have HP := aK_ hp
  clear hr0 hc0 hp
  go_enter Tryd.func80, Tryd.ntmps80
  go_wp2
  go_loopg [8] l0.length (fun kq v8 w' => ∃ i : Nat, v8 = .int .i64 (i : Int) ∧ zAO (i ≤ l0.length) ∧ zAO (kq = l0.length - i) ∧ zAO (idxL nm l0 0 = idxL nm (l0.drop i) i) ∧ zAO (Below w.heap.size w w'))
  case atStart => exact ⟨0, rfl, ⟨Nat.zero_le _⟩, ⟨rfl⟩, ⟨rfl⟩, ⟨Below.refl _ _⟩⟩
  case round =>
    obtain ⟨i, rfl, HI, HK, HE, HB⟩ := hrel
    by_cases hlt : i < l0.length
    · have h0 : (0 : Int) ≤ (i : Int) := by omega
      have h1 : (i : Int) < (l0.length : Int) := by omega
      obtain ⟨ad, e1, hx0, hx1⟩ := at_T47 (Kd.C_below HR.out HB.out) (i : Int) h0 h1
      cases e1
      simp only [Int.toNat_natCast] at hx0 hx1
      have hs := idxL_drop nm l0 i hlt
      have hw : wrap64 ((i : Int) + 1) = ((i + 1 : Nat) : Int) := by unfold wrap64; omega
      cases hq : ((rd_T47 l0 i).f0.toList == nm.toList) with
      | true =>
        rw [hq, if_pos rfl] at hs
        have HS := aK_ hs
        have HQ := aK_ hq
        have HW := aK_ hw
        clear hs hq hw
        go_wp2_with (first | (go_at_call 56; refine (ahead_any _ nm _ p _ (zAJ HB.out HP.out)).mono ?_; rintro e w' ⟨rfl, hb_⟩; have HB2 := aK_ hb_; clear hb_; rw [HQ.out]))
        go_ret
        exact ⟨by rw [HE.out, HS.out]; rfl, below_then HB.out HB.out.size HB2.out⟩
      | false =>
        rw [hq, if_neg (by decide)] at hs
        have HS := aK_ hs
        have HQ := aK_ hq
        have HW := aK_ hw
        clear hs hq hw
        go_wp2_with (first | (go_at_call 56; refine (ahead_any _ nm _ p _ (zAJ HB.out HP.out)).mono ?_; rintro e w' ⟨rfl, hb_⟩; have HB2 := aK_ hb_; clear hb_; rw [HQ.out]))
        go_roundg (l0.length - (i + 1))
        case measure => have := HK.out; omega
        case rel => exact ⟨i + 1, by first | (rw [HW.out]; done) | (simp; done), ⟨hlt⟩, ⟨rfl⟩, ⟨by rw [HE.out, HS.out]⟩, ⟨below_then HB.out HB.out.size HB2.out⟩⟩
    · have hi : i = l0.length := by have := HI.out; omega
      subst hi
      go_wp2
      go_ret
      exact ⟨by rw [HE.out, List.drop_length]; rfl, HB.out⟩
set_option maxHeartbeats 1000000 in
set_option maxRecDepth 100000 in
theorem contains_any (A0 : Option Addr) (c0 : Nat) (l0 : List (S47)) (nm : ByteArray) (p : Addr) (w : World) (hr0 : Kd.C k47 w A0 l0.length l0) (hc0 : l0.length ≤ c0) (hp : w.cell? p = some (.string nm)) :
    Calls Tryd.prog 57 #[.slice A0 l0.length c0, .func (.func 56) #[] #[.pointer (some p)]] w fun e w' => e = .returned (.bool (decide (idxL nm l0 0 ≥ 0))) ∧ Below w.heap.size w w' := by
  have HR := aK_ hr0
  have HC := aK_ hc0
  have HP := aK_ hp
  clear hr0 hc0 hp
  go_enter Tryd.func57, Tryd.ntmps57
  go_wp2_with (first | (go_at_call 80; refine (index_any A0 c0 l0 nm p _ HR.out HC.out HP.out).mono ?_; rintro e w' ⟨rfl, hb_⟩; have HB2 := aK_ hb_; clear hb_))
  go_ret
  exact ⟨rfl, HB2.out⟩
def dimsL (pre : List (S47)) : List (S47) → Option Int
  | [] => some 0
  | d :: rest => (scan_Name.f d.f0).bind fun b => if b = true then (if idxL d.f0 pre 0 ≥ 0 then some 61 else if d.f1 < 1 ∨ d.f1 > 1000000000000 then some 50 else dimsL (pre ++ [d]) rest) else some 61
def modeE (a0_2 : Int) (e : Int) : Option Int := if e = 0 then (if a0_2 < 0 ∨ a0_2 > 4 then some 50 else some 0) else some e
def tree_head.f (k : Nat) (a0_0 : ByteArray) (l0_1 : List (S47)) (a0_2 : Int) (l0_3 : List (S33)) : Option Int :=
  (scan_Name.f a0_0).bind fun b => if b = true then (if (l0_1.length : Int) < 1 ∨ (l0_1.length : Int) > 4 then some 100 else (dimsL [] l0_1).bind (modeE a0_2)) else some 61
theorem tree_head.mono : ∀ a0 a1 a2 a3 k, LeO (tree_head.f k a0 a1 a2 a3) (tree_head.f (k + 1) a0 a1 a2 a3) := fun _ _ _ _ _ => LeO.refl _
theorem dimsL_drop (xs : List (S47)) (i : Nat) (h : i < xs.length) (z : Int → Option Int) (r : Int) (hr : (dimsL (xs.take i) (xs.drop i)).bind z = some r) :
    ∃ b, scan_Name.f (rd_T47 xs i).f0 = some b ∧ ((b = false ∧ z 61 = some r) ∨ (b = true ∧ idxL (rd_T47 xs i).f0 (xs.take i) 0 ≥ 0 ∧ z 61 = some r) ∨
      (b = true ∧ ¬ idxL (rd_T47 xs i).f0 (xs.take i) 0 ≥ 0 ∧ (rd_T47 xs i).f1 < 1 ∧ z 50 = some r) ∨ (b = true ∧ ¬ idxL (rd_T47 xs i).f0 (xs.take i) 0 ≥ 0 ∧ ¬ (rd_T47 xs i).f1 < 1 ∧ (rd_T47 xs i).f1 > 1000000000000 ∧ z 50 = some r) ∨
      (b = true ∧ ¬ idxL (rd_T47 xs i).f0 (xs.take i) 0 ≥ 0 ∧ ¬ (rd_T47 xs i).f1 < 1 ∧ ¬ (rd_T47 xs i).f1 > 1000000000000 ∧ (dimsL (xs.take (i + 1)) (xs.drop (i + 1))).bind z = some r)) := by
  have e1 : rd_T47 xs i = xs[i] := by simp [rd_T47, List.getD_eq_getElem?_getD, List.getElem?_eq_getElem h]
  rw [e1]
  rw [List.drop_eq_getElem_cons h, dimsL] at hr
  obtain ⟨e, h1, h2⟩ := Option.bind_eq_some_iff.1 hr
  obtain ⟨b, h3, h4⟩ := Option.bind_eq_some_iff.1 h1
  refine ⟨b, h3, ?_⟩
  cases b with
  | false =>
    rw [if_neg (by decide)] at h4
    obtain rfl := Option.some.inj h4
    exact .inl ⟨rfl, h2⟩
  | true =>
    rw [if_pos rfl] at h4
    by_cases c1 : idxL xs[i].f0 (xs.take i) 0 ≥ 0
    · rw [if_pos c1] at h4
      obtain rfl := Option.some.inj h4
      exact .inr (.inl ⟨rfl, c1, h2⟩)
    · rw [if_neg c1] at h4
      by_cases c2 : xs[i].f1 < 1
      · rw [if_pos (.inl c2)] at h4
        obtain rfl := Option.some.inj h4
        exact .inr (.inr (.inl ⟨rfl, c1, c2, h2⟩))
      · by_cases c3 : xs[i].f1 > 1000000000000
        · rw [if_pos (.inr c3)] at h4
          obtain rfl := Option.some.inj h4
          exact .inr (.inr (.inr (.inl ⟨rfl, c1, c2, c3, h2⟩)))
        · rw [if_neg (by omega)] at h4
          refine .inr (.inr (.inr (.inr ⟨rfl, c1, c2, c3, ?_⟩)))
          rw [List.take_succ_eq_append_getElem h]
          exact Option.bind_eq_some_iff.2 ⟨e, h4, h2⟩
set_option maxHeartbeats 8000000 in
set_option maxRecDepth 100000 in
theorem tree_head.calls (k : Nat) (a0_0 : ByteArray) (A0_1 : Option Addr) (c0_1 : Nat) (l0_1 : List (S47)) (a0_2 : Int) (A0_3 : Option Addr) (c0_3 : Nat) (l0_3 : List (S33)) (r : Int) (w : World) (hG : GW w) (hr0_1 : Kd.C k47 w A0_1 l0_1.length l0_1) (hc0_1 : l0_1.length ≤ c0_1) (hr0_3 : Kd.C k33 w A0_3 l0_3.length l0_3) (hc0_3 : l0_3.length ≤ c0_3) (h : tree_head.f k a0_0 l0_1 a0_2 l0_3 = some r) :
    Calls Tryd.prog 37 #[.agg #[.string a0_0, .slice A0_1 l0_1.length c0_1, .int .i64 a0_2, .slice A0_3 l0_3.length c0_3]] w fun e w' => e = .returned (.int .i64 r) ∧ Below w.heap.size w w' := by
  have hm := hr0_1.2.1
  have HR := aK_ hr0_1
  have HC := aK_ hc0_1
  have HG := aK_ hG
  clear hr0_1 hc0_1 hr0_3 hc0_3 hG
  obtain ⟨b, hb, h⟩ := Option.bind_eq_some_iff.1 h
  have HNM := aK_ hb
  clear hb
  cases b with
  | false =>
    rw [if_neg (by decide)] at h
    obtain rfl := Option.some.inj h
    clear h
    go_enter Tryd.func37, Tryd.ntmps37
    go_wp2_with (first | (go_at_call 55; refine (scan_Name.calls _ _ _ (HG.out.alloc) HNM.out).mono ?_; rintro e w' ⟨rfl, nd, rfl⟩))
    go_ret
    exact ⟨rfl, zAT (zAF (Below.refl _ _) _) _⟩
  | true =>
    rw [if_pos rfl] at h
    by_cases h1 : (l0_1.length : Int) < 1
    · rw [if_pos (.inl h1)] at h
      obtain rfl := Option.some.inj h
      clear h
      go_enter Tryd.func37, Tryd.ntmps37
      go_wp2_with (first | (go_at_call 55; refine (scan_Name.calls _ _ _ (HG.out.alloc) HNM.out).mono ?_; rintro e w' ⟨rfl, nd, rfl⟩))
      go_ret
      exact ⟨rfl, zAT (zAF (Below.refl _ _) _) _⟩
    · by_cases h2 : 4 < (l0_1.length : Int)
      · rw [if_pos (.inr h2)] at h
        obtain rfl := Option.some.inj h
        clear h
        go_enter Tryd.func37, Tryd.ntmps37
        go_wp2_with (first | (go_at_call 55; refine (scan_Name.calls _ _ _ (HG.out.alloc) HNM.out).mono ?_; rintro e w' ⟨rfl, nd, rfl⟩))
        all_goals first | (exfalso; omega) | skip
        go_ret
        exact ⟨rfl, zAT (zAF (Below.refl _ _) _) _⟩
      · rw [if_neg (by omega)] at h
        have H := aK_ h
        clear h
        go_enter Tryd.func37, Tryd.ntmps37
        go_wp2_with (first | (go_at_call 55; refine (scan_Name.calls _ _ _ (HG.out.alloc) HNM.out).mono ?_; rintro e w' ⟨rfl, nd, rfl⟩))
        all_goals first | (exfalso; omega) | skip
        have hbk0 : (w.alloc (.cells #[.string a0_0, .slice A0_1 l0_1.length c0_1, .int .i64 a0_2, .slice A0_3 l0_3.length c0_3] 25)).heap[w.heap.size]? = some (.cells #[.string a0_0, .slice A0_1 l0_1.length c0_1, .int .i64 a0_2, .slice A0_3 l0_3.length c0_3] 25 (0, 0)) := heap_alloc_new w _
        have HBK0 := aK_ hbk0
        clear hbk0
        go_loopg [23] l0_1.length (fun kq v23 w' => ∃ i : Nat, v23 = .int .i64 (i : Int) ∧ zAO (i ≤ l0_1.length) ∧ zAO (kq = l0_1.length - i) ∧ zAO ((dimsL (l0_1.take i) (l0_1.drop i)).bind (modeE a0_2) = some r) ∧ zAO (w'.heap[w.heap.size]? = some (.cells #[.string a0_0, .slice A0_1 l0_1.length c0_1, .int .i64 a0_2, .slice A0_3 l0_3.length c0_3] 25 (0, 0))) ∧ zAO (Below w.heap.size w w'))
        case atStart => exact ⟨0, rfl, ⟨Nat.zero_le _⟩, ⟨rfl⟩, ⟨by simpa using H.out⟩, ⟨blk_drewN HBK0.out nd⟩, ⟨zAT (zAF (Below.refl _ _) _) _⟩⟩
        case round =>
          clear H HBK0
          obtain ⟨i, rfl, HI, HK, HE, BK, HB⟩ := hrel
          have hc0 : wr.cell? ⟨w.heap.size, 0, none⟩ = some (.string a0_0) := (zAB BK.out 0).trans rfl
          have hc1 : wr.cell? ⟨w.heap.size, 1, none⟩ = some (.slice A0_1 l0_1.length c0_1) := (zAB BK.out 1).trans rfl
          have hc2 : wr.cell? ⟨w.heap.size, 2, none⟩ = some (.int .i64 a0_2) := (zAB BK.out 2).trans rfl
          have ha1 : ∀ o, (wr.alloc o).cell? ⟨w.heap.size, 1, none⟩ = some (.slice A0_1 l0_1.length c0_1) := fun o => zAJ (zAF (Below.refl _ _) o) hc1
          by_cases hlt : i < l0_1.length
          · have h0 : (0 : Int) ≤ (i : Int) := by omega
            have h1 : (i : Int) < (l0_1.length : Int) := by omega
            obtain ⟨ad, e1, hx0, hx1⟩ := at_T47 (Kd.C_below HR.out HB.out) (i : Int) h0 h1
            simp only [Int.toNat_natCast] at hx0 hx1
            obtain ⟨b, hb, hcase⟩ := dimsL_drop l0_1 i hlt (modeE a0_2) r HE.out
            have HNB := aK_ hb
            clear hb
            have hsl : ∀ W : World, (Instr.slice 22 (.slice A0_1 l0_1.length c0_1) none (some (.int .i64 (i : Int))) none).run Tryd.prog W = .ok (.slice A0_1 i c0_1) W := by
              intro W
              have hu : Tryd.prog.underlying 22 = some (.slice (Tryd.prog.elem 22)) := by simp [Program.elem, Tryd.underlying22]
              have ha : (A0_1.map fun x => x.add 0) = A0_1 := by cases A0_1 <;> simp [Addr.add]
              obtain ⟨i0, hi, _⟩ := Option.map_eq_some_iff.1 info47
              have hel : Tryd.prog.elem 22 = 47 := by simp [Program.elem, Tryd.underlying22]
              rw [run_slice_h W 22 A0_1 l0_1.length c0_1 hu .i64 (i : Int) h0 (by have := HC.out; omega), hel]
              simp [sizeOf, typeInfo, hi, sliced, Result.andThen, ha]
            have hlen : (l0_1.take i).length = i := by rw [List.length_take]; omega
            generalize hF : (rd_T47 l0_1 (i : Int)) = F at *
            have hcon : ∀ n : Nat, Calls Tryd.prog 57 #[.slice A0_1 i c0_1, .func (.func 56) #[] #[.pointer (some ⟨wr.heap.size, 0, none⟩)]] ((wr.alloc (.cells #[.string F.f0, .int .i64 F.f1] 47)).drewN n) (fun e w' => e = .returned (.bool (decide (idxL F.f0 (l0_1.take i) 0 ≥ 0))) ∧ Below ((wr.alloc (.cells #[.string F.f0, .int .i64 F.f1] 47)).drewN n).heap.size ((wr.alloc (.cells #[.string F.f0, .int .i64 F.f1] 47)).drewN n) w') := by
              intro n
              have hC := Kd.C_take HR.out (m := i) (Nat.le_of_lt hlt)
              have q := contains_any A0_1 c0_1 (l0_1.take i) F.f0 ⟨wr.heap.size, 0, none⟩ ((wr.alloc (.cells #[.string F.f0, .int .i64 F.f1] 47)).drewN n) (Kd.C_below hC (zAT (zAF HB.out _) _)) (by rw [hlen]; have := HC.out; omega) ((zAB (blk_drewN (heap_alloc_new wr _) n) 0).trans rfl)
              rw [hlen] at q
              exact q
            have HCON := aK_ hcon
            clear hcon
            cases e1
            rcases hcase with ⟨rfl, hz⟩ | ⟨rfl, hi1, hz⟩ | ⟨rfl, hi1, hs1, hz⟩ | ⟨rfl, hi1, hs1, hs2, hz⟩ | ⟨rfl, hi1, hs1, hs2, hz⟩
            · obtain rfl : 61 = r := Option.some.inj hz
              go_wp2_with (first | (go_at_call 55; refine (scan_Name.calls _ _ _ ((HG.out.below HB.out).alloc) HNB.out).mono ?_; rintro e w' ⟨rfl, nd2, rfl⟩))
              go_ret
              exact ⟨rfl, zAT (zAF HB.out _) _⟩
            · obtain rfl : 61 = r := Option.some.inj hz
              have HD := aK_ (decide_eq_true hi1)
              clear hi1
              go_wp2_with (first | (go_at_call 55; refine (scan_Name.calls _ _ _ ((HG.out.below HB.out).alloc) HNB.out).mono ?_; rintro e w' ⟨rfl, nd2, rfl⟩) | (go_at_call 57; refine (HCON.out nd2).mono ?_; rintro e w' ⟨rfl, hb2⟩; rw [HD.out]; have HB2 := aK_ hb2; clear hb2))
              go_ret
              exact ⟨rfl, below_then (zAT (zAF HB.out _) nd2) (zAT (zAF HB.out _) nd2).size HB2.out⟩
            · obtain rfl : 50 = r := Option.some.inj hz
              have HD := aK_ (decide_eq_false hi1)
              clear hi1
              go_wp2_with (first | (go_at_call 55; refine (scan_Name.calls _ _ _ ((HG.out.below HB.out).alloc) HNB.out).mono ?_; rintro e w' ⟨rfl, nd2, rfl⟩) | (go_at_call 57; refine (HCON.out nd2).mono ?_; rintro e w2 ⟨rfl, hb2⟩; rw [HD.out]; have hd1 : w2.cell? ⟨wr.heap.size, 1, none⟩ = some (.int .i64 F.f1) := zAJ hb2 ((zAB (blk_drewN (heap_alloc_new wr _) nd2) 1).trans rfl); have HB2 := aK_ hb2; clear hb2))
              all_goals first | (exfalso; omega) | skip
              go_ret
              exact ⟨rfl, below_then (zAT (zAF HB.out _) nd2) (zAT (zAF HB.out _) nd2).size HB2.out⟩
            · obtain rfl : 50 = r := Option.some.inj hz
              have HD := aK_ (decide_eq_false hi1)
              clear hi1
              go_wp2_with (first | (go_at_call 55; refine (scan_Name.calls _ _ _ ((HG.out.below HB.out).alloc) HNB.out).mono ?_; rintro e w' ⟨rfl, nd2, rfl⟩) | (go_at_call 57; refine (HCON.out nd2).mono ?_; rintro e w2 ⟨rfl, hb2⟩; rw [HD.out]; have hd1 : w2.cell? ⟨wr.heap.size, 1, none⟩ = some (.int .i64 F.f1) := zAJ hb2 ((zAB (blk_drewN (heap_alloc_new wr _) nd2) 1).trans rfl); have HB2 := aK_ hb2; clear hb2))
              all_goals first | (exfalso; omega) | skip
              go_ret
              exact ⟨rfl, below_then (zAT (zAF HB.out _) nd2) (zAT (zAF HB.out _) nd2).size HB2.out⟩
            · have HD := aK_ (decide_eq_false hi1)
              have HZ := aK_ hz
              clear hi1 hz
              go_wp2_with (first | (go_at_call 55; refine (scan_Name.calls _ _ _ ((HG.out.below HB.out).alloc) HNB.out).mono ?_; rintro e w' ⟨rfl, nd2, rfl⟩) | (go_at_call 57; refine (HCON.out nd2).mono ?_; rintro e w2 ⟨rfl, hb2⟩; rw [HD.out]; have hd1 : w2.cell? ⟨wr.heap.size, 1, none⟩ = some (.int .i64 F.f1) := zAJ hb2 ((zAB (blk_drewN (heap_alloc_new wr _) nd2) 1).trans rfl); have HB2 := aK_ hb2; clear hb2))
              all_goals first | (exfalso; omega) | skip
              go_roundg (l0_1.length - (i + 1))
              case measure => have := HK.out; omega
              case rel => exact ⟨i + 1, by first | (simp; done) | (congr 1; unfold wrap64; omega), ⟨hlt⟩, ⟨rfl⟩, ⟨HZ.out⟩, ⟨zAN (blk_drewN (blk_alloc BK.out _) _) HB2.out⟩, ⟨below_then (zAT (zAF HB.out _) nd2) (zAT (zAF HB.out _) nd2).size HB2.out⟩⟩
          · have hi : i = l0_1.length := by have := HI.out; omega
            subst hi
            have hz := HE.out
            rw [List.drop_length] at hz
            have hz' : modeE a0_2 0 = some r := hz
            unfold modeE at hz'
            rw [if_pos rfl] at hz'
            by_cases m1 : a0_2 < 0
            · rw [if_pos (.inl m1)] at hz'
              obtain rfl : 50 = r := Option.some.inj hz'
              clear hz hz'
              go_wp2
              go_ret
              exact ⟨rfl, HB.out⟩
            · by_cases m2 : 4 < a0_2
              · rw [if_pos (.inr m2)] at hz'
                obtain rfl : 50 = r := Option.some.inj hz'
                clear hz hz'
                go_wp2
                all_goals first | (exfalso; omega) | skip
                go_ret
                exact ⟨rfl, HB.out⟩
              · rw [if_neg (by omega)] at hz'
                obtain rfl : 0 = r := Option.some.inj hz'
                clear hz hz'
                go_wp2
                all_goals first | (exfalso; omega) | skip
                go_ret
                exact ⟨rfl, HB.out⟩
end Go.Proofs.YthbnigjckjkmnaaDoor.S

namespace Go.Proofs.YthbnigjckjkmnaaDoor.S
open Go.RowKit Go.Proofs.YthbnigjckjkmnaaDoorW.PrintWords Go.Proofs.YthbnigjckjkmnaaDoorW.PrintLast Go.Proofs.YthbnigjckjkmnaaDoorW.PrintMore
attribute [local go_sem] max2_int min2_int max_two min_two max_three min_three max_four min_four
def tree_Check.l0:Nat→Int→List (S33)→Int→Int→ByteArray→List (S47)→Int→List (S33)→Option (Int × Int)
 |0,_,_,_,_,_,_,_,_=>none
 |k+1,x5,x19,x20,x21,x118000,x118001,x118002,x118003=>if x21<x20 then (if 0≤x21 then (if x21<(x19.length:Int) then ((tree_node.f k ((zAC x19 x21).f0) ((zAC x19 x21).f1) ((zAC x19 x21).f2) ((zAC x19 x21).f3) ((zAC x19 x21).f4) ((zAC x19 x21).f5) (x118001.length:Int) x5).bind fun t121=>(if t121=0 then ((tree_takes.f ((zAC x19 x21).f0) ((zAC x19 x21).f1) ((zAC x19 x21).f2) ((zAC x19 x21).f3) ((zAC x19 x21).f4) ((zAC x19 x21).f5)).bind fun t122=>(tree_Check.l0 k (wrap64 (x5+(wrap64 (1 - t122)))) x19 x20 (wrap64 (x21+1)) x118000 x118001 x118002 x118003)) else (some (x21,t121)))) else (none)) else (none)) else (if x5=1 then (some (0,0)) else (some ((x118003.length:Int),50)))
def tree_Check.f (k:Nat) (a0_0:ByteArray) (l0_1:List (S47)) (a0_2:Int) (l0_3:List (S33)):Option (Int × Int):=(tree_head.f k a0_0 l0_1 a0_2 l0_3).bind fun t118=>(if t118=0 then (if (l0_3.length:Int) > 1024 then (some (1024,2)) else (tree_Check.l0 k 0 l0_3 (l0_3.length:Int) 0 a0_0 l0_1 a0_2 l0_3)) else (some ((-1),t118)))
theorem tree_Check.mono_l:∀ k,(∀ y0 y1 y2 y3 y4 y5 y6 y7,LeO (tree_Check.l0 k y0 y1 y2 y3 y4 y5 y6 y7) (tree_Check.l0 (k+1) y0 y1 y2 y3 y4 y5 y6 y7))
 |0=>fun _ _ _ _ _ _ _ _ r h=>by simp [tree_Check.l0] at h
 |k+1=>by
  have ih0:=tree_Check.mono_l k
  ·intro y0 y1 y2 y3 y4 y5 y6 y7
   unfold tree_Check.l0
   repeat' first
   |(with_reducible exact ih0 _ _ _ _ _ _ _ _)
   |(with_reducible exact tree_head.mono _ _ _ _ _)
   |(with_reducible exact tree_node.mono _ _ _ _ _ _ _ _ _)
   |(with_reducible exact LeO.refl _)
   |(with_reducible exact LeO.none _)
   |(with_reducible refine LeO.ite ?_ ?_)
   |(with_reducible refine LeO.bind ?_ (fun _=>?_))
   |exact ih0 _ _ _ _ _ _ _ _
   |exact tree_head.mono _ _ _ _ _
   |exact tree_node.mono _ _ _ _ _ _ _ _ _
   |exact LeO.none _
   |refine LeO.ite ?_ ?_
   |refine LeO.bind ?_ (fun _=>?_)
theorem tree_Check.mono:∀ a0 a1 a2 a3 k,LeO (tree_Check.f k a0 a1 a2 a3) (tree_Check.f (k+1) a0 a1 a2 a3):=by
 intro a0 a1 a2 a3 k
 have ih0:=tree_Check.mono_l k
 unfold tree_Check.f
 repeat' first
   |(with_reducible exact ih0 _ _ _ _ _ _ _ _)
   |(with_reducible exact tree_head.mono _ _ _ _ _)
   |(with_reducible exact tree_node.mono _ _ _ _ _ _ _ _ _)
   |(with_reducible exact LeO.refl _)
   |(with_reducible exact LeO.none _)
   |(with_reducible refine LeO.ite ?_ ?_)
   |(with_reducible refine LeO.bind ?_ (fun _=>?_))
   |exact ih0 _ _ _ _ _ _ _ _
   |exact tree_head.mono _ _ _ _ _
   |exact tree_node.mono _ _ _ _ _ _ _ _ _
   |exact LeO.none _
   |refine LeO.ite ?_ ?_
   |refine LeO.bind ?_ (fun _=>?_)
set_option maxHeartbeats 8000000 in
set_option maxRecDepth 100000 in
theorem tree_Check.calls (k:Nat) (a0_0:ByteArray) (A0_1:Option Addr) (c0_1:Nat) (l0_1:List (S47)) (a0_2:Int) (A0_3:Option Addr) (c0_3:Nat) (l0_3:List (S33)) (r1:Int) (r2:Int) (w:World) (hG:GW w) (hr0_1:Kd.C k47 w A0_1 l0_1.length l0_1) (hc0_1:l0_1.length≤c0_1) (hr0_3:Kd.C k33 w A0_3 l0_3.length l0_3) (hc0_3:l0_3.length≤c0_3) (h:tree_Check.f k a0_0 l0_1 a0_2 l0_3=some (r1,r2)) :
  Calls Tryd.prog 16 #[.agg #[.string a0_0,.slice A0_1 l0_1.length c0_1,.int .i64 a0_2,.slice A0_3 l0_3.length c0_3]] w fun e w'=>e = .returned (.tuple #[.int .i64 r1,.int .i64 r2])∧Below w.heap.size w w':=by
 have hu25:=Tryd.underlying25
 have hu33:=Tryd.underlying33
 have HR0_1:=aK_ hr0_1
 have HC0_1:=aK_ hc0_1
 clear hr0_1 hc0_1
 have HR0_3:=aK_ hr0_3
 have HC0_3:=aK_ hc0_3
 clear hr0_3 hc0_3
 have HB:=aK_ (Below.refl w.heap.size w)
 have H:((tree_head.f k a0_0 l0_1 a0_2 l0_3).bind fun t118=>(if t118=0 then (if (l0_3.length:Int) > 1024 then (some (1024,2)) else (tree_Check.l0 k 0 l0_3 (l0_3.length:Int) 0 a0_0 l0_1 a0_2 l0_3)) else (some ((-1),t118))))=some (r1,r2):=h
 clear h
 replace H:=Option.bind_eq_some_iff.mp H
 obtain ⟨t118,A20,H⟩:=H
 replace H:(if t118=0 then (if (l0_3.length:Int) > 1024 then (some (1024,2)) else (tree_Check.l0 k 0 l0_3 (l0_3.length:Int) 0 a0_0 l0_1 a0_2 l0_3)) else (some ((-1),t118)))=some (r1,r2):=H
 have A2:=aK_ A20
 clear A20
 by_cases c3:t118=0
 rotate_left
 ·rw [if_neg c3] at H
  have c3b0:(t118 == 0)=false:=beq_eq_false_iff_ne.mpr c3
  have c3b1:(t118 != 0)=true:=bne_iff_ne.mpr c3
  simp only [Option.some.injEq,Prod.mk.injEq] at H
  obtain ⟨rfl,rfl⟩:=H
  go_enter Tryd.func16,Tryd.ntmps16
  go_wp2_with (first|((with_reducible refine zAQ (N:=1) rfl ?_);refine zAS ?hg (N:=1) ?hd (cs:=#[.string a0_0,.slice A0_1 l0_1.length c0_1,.int .i64 a0_2,.slice A0_3 l0_3.length c0_3]) (t:=25) ?hr ?_;(case hd=>rfl);(case hg=>rfl);(case hr=>first|(go_simp;done)|(go_simp;rfl));intro gb117 hg w33 hbox hb;have n0_:=aK_ (zAH (aH_ HB.out) hb);have n1_:=aK_ (hbox);have n2_:=aK_ ((by rw [hg];exact (zAE (aH_ HB.out)):w.heap.size≤gb117));have n3_:=aK_ ((by rw [hg];exact (zAE (aH_ HB.out)):w.heap.size≤gb117));clear HB;have HB:=n0_;have BK117:=n1_;have GW117:=n2_;have GE117:=n3_;clear n0_ n1_ n2_ n3_;clear hb hbox hg;have hcz34_0:w33.cell? ⟨gb117,0,none⟩=some (.string a0_0):=(zAB BK117.out 0).trans rfl;have hcz34_1:w33.cell? ⟨gb117,1,none⟩=some (.slice A0_1 l0_1.length c0_1):=(zAB BK117.out 1).trans rfl;have hcz34_2:w33.cell? ⟨gb117,2,none⟩=some (.int .i64 a0_2):=(zAB BK117.out 2).trans rfl;have hcz34_3:w33.cell? ⟨gb117,3,none⟩=some (.slice A0_3 l0_3.length c0_3):=(zAB BK117.out 3).trans rfl;have hfz34_0:=zAA BK117.out 0;have hfz34_1:=zAA BK117.out 1;have hfz34_2:=zAA BK117.out 2;have hfz34_3:=zAA BK117.out 3)|((with_reducible refine gate_callee (f:=37) rfl ?_);refine goesL_ (some 10) rfl rfl Tryd.func37 (by kernel_rfl) rfl #[.agg #[.string a0_0,.slice A0_1 l0_1.length c0_1,.int .i64 a0_2,.slice A0_3 l0_3.length c0_3]] rfl aM_ ?_;(with_reducible refine (tree_head.calls k a0_0 _ _ l0_1 a0_2 _ _ l0_3 t118 _ ?side1 ?side2 ?side3 ?side4 ?side5 A2.out).mono ?_);(case side1=>(first|(with_reducible exact hG)|((repeat (with_reducible first|exact hG|apply GW.drewN|apply GW.drew|apply GW.alloc));done)|exact GW.below hG (aI_ HB.out GE117.out)));(case side2=>repeat (first|exact (Kd.C_below HR0_1.out HB.out)|(with_reducible refine Kd.C_alloc ?_ _)|(with_reducible refine Kd.C_drewN ?_ _)|(with_reducible refine Kd.C_drew ?_)));(case side3=>exact HC0_1.out);(case side4=>repeat (first|exact (Kd.C_below HR0_3.out HB.out)|(with_reducible refine Kd.C_alloc ?_ _)|(with_reducible refine Kd.C_drewN ?_ _)|(with_reducible refine Kd.C_drew ?_)));(case side5=>exact HC0_3.out);rintro e w35 ⟨rfl,hb⟩;refine ⟨_,rfl,?_⟩;have n0_:=aK_ (zAN (g:=gb117) (o:=.cells #[.string a0_0,.slice A0_1 l0_1.length c0_1,.int .i64 a0_2,.slice A0_3 l0_3.length c0_3] 25 (0,0)) (aB_ BK117.out) hb);have n1_:=aK_ (zAH (aI_ HB.out GE117.out) hb);clear BK117;clear HB;have BK117:=n0_;have HB:=n1_;clear n0_ n1_;(try clear hb);(try clear hb2);(try clear hk);(try clear hi)))
  go_ret2
  exact ⟨by first|rfl|(simp [zAL,zAK] <;> rfl)|(simp [*,zAL,zAK] <;> rfl),aI_ HB.out GE117.out⟩
 rw [if_pos c3] at H
 have c3b0:(t118 == 0)=true:=beq_iff_eq.mpr c3
 have c3b1:(t118 != 0)=false:=bne_eq_false_iff_eq.mpr c3
 clear c3
 by_cases c4:(l0_3.length:Int) > 1024
 ·rw [if_pos c4] at H
  have c4b0:decide (1024<(l0_3.length:Int))=true:=decide_eq_true c4
  have c4b1:decide (1024<l0_3.length)=true:=decide_eq_true (by omega)
  clear c4
  simp only [Option.some.injEq,Prod.mk.injEq] at H
  obtain ⟨rfl,rfl⟩:=H
  go_enter Tryd.func16,Tryd.ntmps16
  go_wp2_with (first|((with_reducible refine zAQ (N:=1) rfl ?_);refine zAS ?hg (N:=1) ?hd (cs:=#[.string a0_0,.slice A0_1 l0_1.length c0_1,.int .i64 a0_2,.slice A0_3 l0_3.length c0_3]) (t:=25) ?hr ?_;(case hd=>rfl);(case hg=>rfl);(case hr=>first|(go_simp;done)|(go_simp;rfl));intro gb117 hg w5 hbox hb;have n0_:=aK_ (zAH (aH_ HB.out) hb);have n1_:=aK_ (hbox);have n2_:=aK_ ((by rw [hg];exact (zAE (aH_ HB.out)):w.heap.size≤gb117));have n3_:=aK_ ((by rw [hg];exact (zAE (aH_ HB.out)):w.heap.size≤gb117));clear HB;have HB:=n0_;have BK117:=n1_;have GW117:=n2_;have GE117:=n3_;clear n0_ n1_ n2_ n3_;clear hb hbox hg;have hcz6_0:w5.cell? ⟨gb117,0,none⟩=some (.string a0_0):=(zAB BK117.out 0).trans rfl;have hcz6_1:w5.cell? ⟨gb117,1,none⟩=some (.slice A0_1 l0_1.length c0_1):=(zAB BK117.out 1).trans rfl;have hcz6_2:w5.cell? ⟨gb117,2,none⟩=some (.int .i64 a0_2):=(zAB BK117.out 2).trans rfl;have hcz6_3:w5.cell? ⟨gb117,3,none⟩=some (.slice A0_3 l0_3.length c0_3):=(zAB BK117.out 3).trans rfl;have hfz6_0:=zAA BK117.out 0;have hfz6_1:=zAA BK117.out 1;have hfz6_2:=zAA BK117.out 2;have hfz6_3:=zAA BK117.out 3)|((with_reducible refine gate_callee (f:=37) rfl ?_);refine goesL_ (some 10) rfl rfl Tryd.func37 (by kernel_rfl) rfl #[.agg #[.string a0_0,.slice A0_1 l0_1.length c0_1,.int .i64 a0_2,.slice A0_3 l0_3.length c0_3]] rfl aM_ ?_;(with_reducible refine (tree_head.calls k a0_0 _ _ l0_1 a0_2 _ _ l0_3 t118 _ ?side1 ?side2 ?side3 ?side4 ?side5 A2.out).mono ?_);(case side1=>(first|(with_reducible exact hG)|((repeat (with_reducible first|exact hG|apply GW.drewN|apply GW.drew|apply GW.alloc));done)|exact GW.below hG (aI_ HB.out GE117.out)));(case side2=>repeat (first|exact (Kd.C_below HR0_1.out HB.out)|(with_reducible refine Kd.C_alloc ?_ _)|(with_reducible refine Kd.C_drewN ?_ _)|(with_reducible refine Kd.C_drew ?_)));(case side3=>exact HC0_1.out);(case side4=>repeat (first|exact (Kd.C_below HR0_3.out HB.out)|(with_reducible refine Kd.C_alloc ?_ _)|(with_reducible refine Kd.C_drewN ?_ _)|(with_reducible refine Kd.C_drew ?_)));(case side5=>exact HC0_3.out);rintro e w7 ⟨rfl,hb⟩;refine ⟨_,rfl,?_⟩;have n0_:=aK_ (zAN (g:=gb117) (o:=.cells #[.string a0_0,.slice A0_1 l0_1.length c0_1,.int .i64 a0_2,.slice A0_3 l0_3.length c0_3] 25 (0,0)) (aB_ BK117.out) hb);have n1_:=aK_ (zAH (aI_ HB.out GE117.out) hb);clear BK117;clear HB;have BK117:=n0_;have HB:=n1_;clear n0_ n1_;(try clear hb);(try clear hb2);(try clear hk);(try clear hi);have hcz8_0:w7.cell? ⟨gb117,0,none⟩=some (.string a0_0):=(zAB BK117.out 0).trans rfl;have hcz8_1:w7.cell? ⟨gb117,1,none⟩=some (.slice A0_1 l0_1.length c0_1):=(zAB BK117.out 1).trans rfl;have hcz8_2:w7.cell? ⟨gb117,2,none⟩=some (.int .i64 a0_2):=(zAB BK117.out 2).trans rfl;have hcz8_3:w7.cell? ⟨gb117,3,none⟩=some (.slice A0_3 l0_3.length c0_3):=(zAB BK117.out 3).trans rfl;have hfz8_0:=zAA BK117.out 0;have hfz8_1:=zAA BK117.out 1;have hfz8_2:=zAA BK117.out 2;have hfz8_3:=zAA BK117.out 3))
  go_ret2
  exact ⟨by first|rfl|(simp [zAL,zAK] <;> rfl)|(simp [*,zAL,zAK] <;> rfl),aI_ HB.out GE117.out⟩
 rw [if_neg c4] at H
 have c4b0:decide (1024<(l0_3.length:Int))=false:=decide_eq_false c4
 have c4b1:decide (1024<l0_3.length)=false:=decide_eq_false (by omega)
 clear c4
 have H':=aK_ H
 clear H
 go_enter Tryd.func16,Tryd.ntmps16
 go_wp2_with (first|((with_reducible refine zAQ (N:=1) rfl ?_);refine zAS ?hg (N:=1) ?hd (cs:=#[.string a0_0,.slice A0_1 l0_1.length c0_1,.int .i64 a0_2,.slice A0_3 l0_3.length c0_3]) (t:=25) ?hr ?_;(case hd=>rfl);(case hg=>rfl);(case hr=>first|(go_simp;done)|(go_simp;rfl));intro gb117 hg w9 hbox hb;have n0_:=aK_ (zAH (aH_ HB.out) hb);have n1_:=aK_ (hbox);have n2_:=aK_ ((by rw [hg];exact (zAE (aH_ HB.out)):w.heap.size≤gb117));have n3_:=aK_ ((by rw [hg];exact (zAE (aH_ HB.out)):w.heap.size≤gb117));clear HB;have HB:=n0_;have BK117:=n1_;have GW117:=n2_;have GE117:=n3_;clear n0_ n1_ n2_ n3_;clear hb hbox hg;have hcz10_0:w9.cell? ⟨gb117,0,none⟩=some (.string a0_0):=(zAB BK117.out 0).trans rfl;have hcz10_1:w9.cell? ⟨gb117,1,none⟩=some (.slice A0_1 l0_1.length c0_1):=(zAB BK117.out 1).trans rfl;have hcz10_2:w9.cell? ⟨gb117,2,none⟩=some (.int .i64 a0_2):=(zAB BK117.out 2).trans rfl;have hcz10_3:w9.cell? ⟨gb117,3,none⟩=some (.slice A0_3 l0_3.length c0_3):=(zAB BK117.out 3).trans rfl;have hfz10_0:=zAA BK117.out 0;have hfz10_1:=zAA BK117.out 1;have hfz10_2:=zAA BK117.out 2;have hfz10_3:=zAA BK117.out 3)|((with_reducible refine gate_callee (f:=37) rfl ?_);refine goesL_ (some 10) rfl rfl Tryd.func37 (by kernel_rfl) rfl #[.agg #[.string a0_0,.slice A0_1 l0_1.length c0_1,.int .i64 a0_2,.slice A0_3 l0_3.length c0_3]] rfl aM_ ?_;(with_reducible refine (tree_head.calls k a0_0 _ _ l0_1 a0_2 _ _ l0_3 t118 _ ?side1 ?side2 ?side3 ?side4 ?side5 A2.out).mono ?_);(case side1=>(first|(with_reducible exact hG)|((repeat (with_reducible first|exact hG|apply GW.drewN|apply GW.drew|apply GW.alloc));done)|exact GW.below hG (aI_ HB.out GE117.out)));(case side2=>repeat (first|exact (Kd.C_below HR0_1.out HB.out)|(with_reducible refine Kd.C_alloc ?_ _)|(with_reducible refine Kd.C_drewN ?_ _)|(with_reducible refine Kd.C_drew ?_)));(case side3=>exact HC0_1.out);(case side4=>repeat (first|exact (Kd.C_below HR0_3.out HB.out)|(with_reducible refine Kd.C_alloc ?_ _)|(with_reducible refine Kd.C_drewN ?_ _)|(with_reducible refine Kd.C_drew ?_)));(case side5=>exact HC0_3.out);rintro e w11 ⟨rfl,hb⟩;refine ⟨_,rfl,?_⟩;have n0_:=aK_ (zAN (g:=gb117) (o:=.cells #[.string a0_0,.slice A0_1 l0_1.length c0_1,.int .i64 a0_2,.slice A0_3 l0_3.length c0_3] 25 (0,0)) (aB_ BK117.out) hb);have n1_:=aK_ (zAH (aI_ HB.out GE117.out) hb);clear BK117;clear HB;have BK117:=n0_;have HB:=n1_;clear n0_ n1_;(try clear hb);(try clear hb2);(try clear hk);(try clear hi);have hcz12_0:w11.cell? ⟨gb117,0,none⟩=some (.string a0_0):=(zAB BK117.out 0).trans rfl;have hcz12_1:w11.cell? ⟨gb117,1,none⟩=some (.slice A0_1 l0_1.length c0_1):=(zAB BK117.out 1).trans rfl;have hcz12_2:w11.cell? ⟨gb117,2,none⟩=some (.int .i64 a0_2):=(zAB BK117.out 2).trans rfl;have hcz12_3:w11.cell? ⟨gb117,3,none⟩=some (.slice A0_3 l0_3.length c0_3):=(zAB BK117.out 3).trans rfl;have hfz12_0:=zAA BK117.out 0;have hfz12_1:=zAA BK117.out 1;have hfz12_2:=zAA BK117.out 2;have hfz12_3:=zAA BK117.out 3))
 (try simp only [Act.put,List.setIfInBounds_toArray,List.set_cons_zero,List.set_cons_succ])
 go_loopg [5,21] k (fun kq v5 v21 w'=>∃ (x5_1:Int) (x21_1:Int),v5 = .int .i64 x5_1∧v21 = .int .i64 x21_1∧zAO (tree_Check.l0 kq x5_1 l0_3 (l0_3.length:Int) x21_1 a0_0 l0_1 a0_2 l0_3=some (r1,r2))∧zAO (kq≤k)∧zAO (w'.heap[gb117]?=some (.cells #[.string a0_0,(.slice A0_1 l0_1.length c0_1),.int .i64 a0_2,(.slice A0_3 l0_3.length c0_3)] 25 (0,0)))∧zAO (Below w.heap.size w w'))
 case atStart=>exact ⟨(0),(0),aS2_,aS2_,H',⟨Nat.le_refl _⟩,⟨aB_ BK117.out⟩,⟨aI_ HB.out GE117.out⟩⟩
 clear H'
 try clear c1
 try clear p2
 try clear c3
 try clear c3b0
 try clear c3b1
 try clear c4
 try clear c4b0
 try clear c4b1
 try clear hcz10_0
 try clear hcz10_1
 try clear hcz10_2
 try clear hcz10_3
 try clear hcz12_0
 try clear hcz12_1
 try clear hcz12_2
 try clear hcz12_3
 try clear hcz6_0
 try clear hcz6_1
 try clear hcz6_2
 try clear hcz6_3
 try clear hcz8_0
 try clear hcz8_1
 try clear hcz8_2
 try clear hcz8_3
 try clear hfz10_0
 try clear hfz10_1
 try clear hfz10_2
 try clear hfz10_3
 try clear hfz12_0
 try clear hfz12_1
 try clear hfz12_2
 try clear hfz12_3
 try clear hfz6_0
 try clear hfz6_1
 try clear hfz6_2
 try clear hfz6_3
 try clear hfz8_0
 try clear hfz8_1
 try clear hfz8_2
 try clear hfz8_3
 obtain ⟨x5_1,x21_1,rfl,rfl,HA,HK1,BK117,HB⟩:=hrel
 cases gk with
 |zero=>exact absurd HA.out (by simp [tree_Check.l0])
 |succ k1=>?_
 have H:=HA.out
 clear HA
 simp only [tree_Check.l0] at H
 by_cases c13:x21_1<(l0_3.length:Int)
 rotate_left
 ·rw [if_neg c13] at H
  have c13b0:decide (x21_1<(l0_3.length:Int))=false:=decide_eq_false c13
  clear c13
  by_cases c31:x5_1=1
  ·rw [if_pos c31] at H
   have c31b0:(x5_1 == 1)=true:=beq_iff_eq.mpr c31
   have c31b1:(x5_1 != 1)=false:=bne_eq_false_iff_eq.mpr c31
   clear c31
   simp only [Option.some.injEq,Prod.mk.injEq] at H
   obtain ⟨rfl,rfl⟩:=H
   go_wp2
   go_ret2
   exact ⟨by first|rfl|(simp [zAL,zAK] <;> rfl)|(simp [*,zAL,zAK] <;> rfl),aI_ HB.out GE117.out⟩
  rw [if_neg c31] at H
  have c31b0:(x5_1 == 1)=false:=beq_eq_false_iff_ne.mpr c31
  have c31b1:(x5_1 != 1)=true:=bne_iff_ne.mpr c31
  simp only [Option.some.injEq,Prod.mk.injEq] at H
  obtain ⟨rfl,rfl⟩:=H
  have hcz32_0:wr.cell? ⟨gb117,0,none⟩=some (.string a0_0):=(zAB BK117.out 0).trans rfl
  have hcz32_1:wr.cell? ⟨gb117,1,none⟩=some (.slice A0_1 l0_1.length c0_1):=(zAB BK117.out 1).trans rfl
  have hcz32_2:wr.cell? ⟨gb117,2,none⟩=some (.int .i64 a0_2):=(zAB BK117.out 2).trans rfl
  have hcz32_3:wr.cell? ⟨gb117,3,none⟩=some (.slice A0_3 l0_3.length c0_3):=(zAB BK117.out 3).trans rfl
  have hfz32_0:=zAA BK117.out 0
  have hfz32_1:=zAA BK117.out 1
  have hfz32_2:=zAA BK117.out 2
  have hfz32_3:=zAA BK117.out 3
  go_wp2
  go_ret2
  exact ⟨by first|rfl|(simp [zAL,zAK] <;> rfl)|(simp [*,zAL,zAK] <;> rfl),aI_ HB.out GE117.out⟩
 rw [if_pos c13] at H
 have c13b0:decide (x21_1<(l0_3.length:Int))=true:=decide_eq_true c13
 clear c13
 have c14:=yes_ H
 rw [if_pos c14] at H
 have c14b0:decide (0≤x21_1)=true:=decide_eq_true c14
 clear c14
 have c15:=yes_ H
 rw [if_pos c15] at H
 have c15b0:decide (x21_1<(l0_3.length:Int))=true:=decide_eq_true c15
 clear c15
 replace H:=Option.bind_eq_some_iff.mp H
 obtain ⟨t121,A160,H⟩:=H
 replace H:(if t121=0 then ((tree_takes.f ((zAC l0_3 x21_1).f0) ((zAC l0_3 x21_1).f1) ((zAC l0_3 x21_1).f2) ((zAC l0_3 x21_1).f3) ((zAC l0_3 x21_1).f4) ((zAC l0_3 x21_1).f5)).bind fun t122=>(tree_Check.l0 k1 (wrap64 (x5_1+(wrap64 (1 - t122)))) l0_3 (l0_3.length:Int) (wrap64 (x21_1+1)) a0_0 l0_1 a0_2 l0_3)) else (some (x21_1,t121)))=some (r1,r2):=H
 have A16:=aK_ A160
 clear A160
 by_cases c17:t121=0
 rotate_left
 ·rw [if_neg c17] at H
  have c17b0:(t121 == 0)=false:=beq_eq_false_iff_ne.mpr c17
  have c17b1:(t121 != 0)=true:=bne_iff_ne.mpr c17
  simp only [Option.some.injEq,Prod.mk.injEq] at H
  obtain ⟨rfl,rfl⟩:=H
  have p119:0≤(x21_1:Int):=aD_
  have q119:x21_1<(l0_3.length:Int):=aD_
  obtain ⟨ad119,A119_4,c119_4,e119,hx119_0,hx119_1,hx119_2,hx119_3,hx119_4,hx119_5,hl119_4,hi119_4⟩:=at_T33 HR0_3.out x21_1 p119 q119
  cases e119
  replace hx119_0:=(HB.out.cell (World.block_lt_of_cell? w _ hx119_0)).trans hx119_0
  replace hx119_1:=(HB.out.cell (World.block_lt_of_cell? w _ hx119_1)).trans hx119_1
  replace hx119_2:=(HB.out.cell (World.block_lt_of_cell? w _ hx119_2)).trans hx119_2
  replace hx119_3:=(HB.out.cell (World.block_lt_of_cell? w _ hx119_3)).trans hx119_3
  replace hx119_4:=(HB.out.cell (World.block_lt_of_cell? w _ hx119_4)).trans hx119_4
  replace hx119_5:=(HB.out.cell (World.block_lt_of_cell? w _ hx119_5)).trans hx119_5
  have HR119_4:=aK_ hi119_4
  have HC119_4:=aK_ hl119_4
  clear hi119_4 hl119_4
  replace p119:=eq_true p119
  replace q119:=eq_true q119
  go_wp2_with (first|((with_reducible refine zAQ (N:=7) rfl ?_);refine zAS ?hg (N:=7) ?hd (cs:=#[.int .i64 0,.int .i64 0,.int .i64 0,.int .i64 0,.slice none 0 0,.int .i64 0]) (t:=33) ?hr ?_;(case hd=>rfl);(case hg=>rfl);(case hr=>first|(go_simp;done)|(go_simp;rfl));intro gb120 hg w26 hbox hb;have n0_:=aK_ (zAN (g:=gb117) (o:=.cells #[.string a0_0,.slice A0_1 l0_1.length c0_1,.int .i64 a0_2,.slice (some ad119) l0_3.length c0_3] 25 (0,0)) (aB_ BK117.out) hb);have n1_:=aK_ (zAH (aI_ HB.out GE117.out) hb);have n2_:=aK_ (hbox);have n3_:=aK_ ((by rw [hg];exact (zAE (aI_ HB.out GE117.out)):w.heap.size≤gb120));have n4_:=aK_ ((by rw [hg];exact (zAE (aI_ HB.out GE117.out)):w.heap.size≤gb120));have n5_:=aK_ ((by rw [hg];exact Nat.ne_of_lt (blk_lt (g:=gb117) (o:=.cells #[.string a0_0,.slice A0_1 l0_1.length c0_1,.int .i64 a0_2,.slice (some ad119) l0_3.length c0_3] 25 (0,0)) (aB_ BK117.out)):gb117≠gb120));have n6_:=aK_ ((by rw [hg];exact Nat.ne_of_gt (blk_lt (g:=gb117) (o:=.cells #[.string a0_0,.slice A0_1 l0_1.length c0_1,.int .i64 a0_2,.slice (some ad119) l0_3.length c0_3] 25 (0,0)) (aB_ BK117.out)):gb120≠gb117));clear BK117;clear HB;have BK117:=n0_;have HB:=n1_;have BK120:=n2_;have GW120:=n3_;have GE120:=n4_;have NB117_120:=n5_;have NB120_117:=n6_;clear n0_ n1_ n2_ n3_ n4_ n5_ n6_;clear hb hbox hg;have hnb27:=NB120_117.out;have hnc27:=NB117_120.out;have hcz28_0:w26.cell? ⟨gb120,0,none⟩=some (.int .i64 0):=(zAB BK120.out 0).trans rfl;have hcz28_1:w26.cell? ⟨gb120,1,none⟩=some (.int .i64 0):=(zAB BK120.out 1).trans rfl;have hcz28_2:w26.cell? ⟨gb120,2,none⟩=some (.int .i64 0):=(zAB BK120.out 2).trans rfl;have hcz28_3:w26.cell? ⟨gb120,3,none⟩=some (.int .i64 0):=(zAB BK120.out 3).trans rfl;have hcz28_4:w26.cell? ⟨gb120,4,none⟩=some (.slice none 0 0):=(zAB BK120.out 4).trans rfl;have hcz28_5:w26.cell? ⟨gb120,5,none⟩=some (.int .i64 0):=(zAB BK120.out 5).trans rfl;have hfz28_0:=zAA BK120.out 0;have hfz28_1:=zAA BK120.out 1;have hfz28_2:=zAA BK120.out 2;have hfz28_3:=zAA BK120.out 3;have hfz28_4:=zAA BK120.out 4;have hfz28_5:=zAA BK120.out 5;have hcz29_0:w26.cell? ⟨gb117,0,none⟩=some (.string a0_0):=(zAB BK117.out 0).trans rfl;have hcz29_1:w26.cell? ⟨gb117,1,none⟩=some (.slice A0_1 l0_1.length c0_1):=(zAB BK117.out 1).trans rfl;have hcz29_2:w26.cell? ⟨gb117,2,none⟩=some (.int .i64 a0_2):=(zAB BK117.out 2).trans rfl;have hcz29_3:w26.cell? ⟨gb117,3,none⟩=some (.slice (some ad119) l0_3.length c0_3):=(zAB BK117.out 3).trans rfl;have hfz29_0:=zAA BK117.out 0;have hfz29_1:=zAA BK117.out 1;have hfz29_2:=zAA BK117.out 2;have hfz29_3:=zAA BK117.out 3)|((with_reducible refine gate_callee (f:=38) rfl ?_);refine goesL_ (some 31) rfl rfl Tryd.func38 (by kernel_rfl) rfl #[.agg #[.int .i64 ((zAC l0_3 x21_1).f0),.int .i64 ((zAC l0_3 x21_1).f1),.int .i64 ((zAC l0_3 x21_1).f2),.int .i64 ((zAC l0_3 x21_1).f3),.slice A119_4 ((zAC l0_3 x21_1).f4).length c119_4,.int .i64 ((zAC l0_3 x21_1).f5)],.int .i64 (l0_1.length:Int),.int .i64 x5_1] rfl aM_ ?_;(with_reducible refine (tree_node.calls k1 ((zAC l0_3 x21_1).f0) ((zAC l0_3 x21_1).f1) ((zAC l0_3 x21_1).f2) ((zAC l0_3 x21_1).f3) _ _ ((zAC l0_3 x21_1).f4) ((zAC l0_3 x21_1).f5) (l0_1.length:Int) x5_1 t121 _ ?side1 ?side2 ?side3 A16.out).mono ?_);(case side1=>(first|(with_reducible exact hG)|((repeat (with_reducible first|exact hG|apply GW.drewN|apply GW.drew|apply GW.alloc));done)|exact GW.below hG (aJ_ HB.out GE117.out GE120.out)));(case side2=>exact Kd.C_below HR119_4.out (aJ_ HB.out GE117.out GE120.out));(case side3=>exact HC119_4.out);rintro e w30 ⟨rfl,hb⟩;refine ⟨_,rfl,?_⟩;have n0_:=aK_ (zAN (g:=gb117) (o:=.cells #[.string a0_0,.slice A0_1 l0_1.length c0_1,.int .i64 a0_2,.slice (some ad119) l0_3.length c0_3] 25 (0,0)) (by refine aB_ ?_;refine blk_far ?_ NB117_120.out _;refine aB_ ?_;refine blk_far ?_ NB117_120.out _;refine aB_ ?_;refine blk_far ?_ NB117_120.out _;refine aB_ ?_;refine blk_far ?_ NB117_120.out _;refine aB_ ?_;refine blk_far ?_ NB117_120.out _;refine aB_ ?_;refine blk_far ?_ NB117_120.out _;refine aB_ ?_;exact BK117.out) hb);have n1_:=aK_ (zAN (g:=gb120) (o:=.cells #[.int .i64 ((zAC l0_3 x21_1).f0),.int .i64 ((zAC l0_3 x21_1).f1),.int .i64 ((zAC l0_3 x21_1).f2),.int .i64 ((zAC l0_3 x21_1).f3),.slice A119_4 ((zAC l0_3 x21_1).f4).length c119_4,.int .i64 ((zAC l0_3 x21_1).f5)] 33 (0,0)) (by refine aB_ ?_;refine blk_put (cs:=#[.int .i64 ((zAC l0_3 x21_1).f0),.int .i64 ((zAC l0_3 x21_1).f1),.int .i64 ((zAC l0_3 x21_1).f2),.int .i64 ((zAC l0_3 x21_1).f3),.slice A119_4 ((zAC l0_3 x21_1).f4).length c119_4,.int .i64 0]) ?_ 5 _ rfl;refine aB_ ?_;refine blk_put (cs:=#[.int .i64 ((zAC l0_3 x21_1).f0),.int .i64 ((zAC l0_3 x21_1).f1),.int .i64 ((zAC l0_3 x21_1).f2),.int .i64 ((zAC l0_3 x21_1).f3),.slice none 0 0,.int .i64 0]) ?_ 4 _ rfl;refine aB_ ?_;refine blk_put (cs:=#[.int .i64 ((zAC l0_3 x21_1).f0),.int .i64 ((zAC l0_3 x21_1).f1),.int .i64 ((zAC l0_3 x21_1).f2),.int .i64 0,.slice none 0 0,.int .i64 0]) ?_ 3 _ rfl;refine aB_ ?_;refine blk_put (cs:=#[.int .i64 ((zAC l0_3 x21_1).f0),.int .i64 ((zAC l0_3 x21_1).f1),.int .i64 0,.int .i64 0,.slice none 0 0,.int .i64 0]) ?_ 2 _ rfl;refine aB_ ?_;refine blk_put (cs:=#[.int .i64 ((zAC l0_3 x21_1).f0),.int .i64 0,.int .i64 0,.int .i64 0,.slice none 0 0,.int .i64 0]) ?_ 1 _ rfl;refine aB_ ?_;refine blk_put (cs:=#[.int .i64 0,.int .i64 0,.int .i64 0,.int .i64 0,.slice none 0 0,.int .i64 0]) ?_ 0 _ rfl;refine aB_ ?_;exact BK120.out) hb);have n2_:=aK_ (zAH (aJ_ HB.out GE117.out GE120.out) hb);clear BK117;clear BK120;clear HB;have BK117:=n0_;have BK120:=n1_;have HB:=n2_;clear n0_ n1_ n2_;(try clear hb);(try clear hb2);(try clear hk);(try clear hi)))
  go_ret2
  exact ⟨by first|rfl|(simp [zAL,zAK] <;> rfl)|(simp [*,zAL,zAK] <;> rfl),aJ_ HB.out GE117.out GE120.out⟩
 rw [if_pos c17] at H
 have c17b0:(t121 == 0)=true:=beq_iff_eq.mpr c17
 have c17b1:(t121 != 0)=false:=bne_eq_false_iff_eq.mpr c17
 clear c17
 replace H:=Option.bind_eq_some_iff.mp H
 obtain ⟨t122,A180,H⟩:=H
 replace H:(tree_Check.l0 k1 (wrap64 (x5_1+(wrap64 (1 - t122)))) l0_3 (l0_3.length:Int) (wrap64 (x21_1+1)) a0_0 l0_1 a0_2 l0_3)=some (r1,r2):=H
 have A18:=aK_ A180
 clear A180
 have H':=aK_ H
 clear H
 have p119:0≤(x21_1:Int):=aD_
 have q119:x21_1<(l0_3.length:Int):=aD_
 obtain ⟨ad119,A119_4,c119_4,e119,hx119_0,hx119_1,hx119_2,hx119_3,hx119_4,hx119_5,hl119_4,hi119_4⟩:=at_T33 HR0_3.out x21_1 p119 q119
 cases e119
 replace hx119_0:=(HB.out.cell (World.block_lt_of_cell? w _ hx119_0)).trans hx119_0
 replace hx119_1:=(HB.out.cell (World.block_lt_of_cell? w _ hx119_1)).trans hx119_1
 replace hx119_2:=(HB.out.cell (World.block_lt_of_cell? w _ hx119_2)).trans hx119_2
 replace hx119_3:=(HB.out.cell (World.block_lt_of_cell? w _ hx119_3)).trans hx119_3
 replace hx119_4:=(HB.out.cell (World.block_lt_of_cell? w _ hx119_4)).trans hx119_4
 replace hx119_5:=(HB.out.cell (World.block_lt_of_cell? w _ hx119_5)).trans hx119_5
 have HR119_4:=aK_ hi119_4
 have HC119_4:=aK_ hl119_4
 clear hi119_4 hl119_4
 replace p119:=eq_true p119
 replace q119:=eq_true q119
 go_wp2_with (first|((with_reducible refine zAQ (N:=7) rfl ?_);refine zAS ?hg (N:=7) ?hd (cs:=#[.int .i64 0,.int .i64 0,.int .i64 0,.int .i64 0,.slice none 0 0,.int .i64 0]) (t:=33) ?hr ?_;(case hd=>rfl);(case hg=>rfl);(case hr=>first|(go_simp;done)|(go_simp;rfl));intro gb120 hg w19 hbox hb;have n0_:=aK_ (zAN (g:=gb117) (o:=.cells #[.string a0_0,.slice A0_1 l0_1.length c0_1,.int .i64 a0_2,.slice (some ad119) l0_3.length c0_3] 25 (0,0)) (aB_ BK117.out) hb);have n1_:=aK_ (zAH (aI_ HB.out GE117.out) hb);have n2_:=aK_ (hbox);have n3_:=aK_ ((by rw [hg];exact (zAE (aI_ HB.out GE117.out)):w.heap.size≤gb120));have n4_:=aK_ ((by rw [hg];exact (zAE (aI_ HB.out GE117.out)):w.heap.size≤gb120));have n5_:=aK_ ((by rw [hg];exact Nat.ne_of_lt (blk_lt (g:=gb117) (o:=.cells #[.string a0_0,.slice A0_1 l0_1.length c0_1,.int .i64 a0_2,.slice (some ad119) l0_3.length c0_3] 25 (0,0)) (aB_ BK117.out)):gb117≠gb120));have n6_:=aK_ ((by rw [hg];exact Nat.ne_of_gt (blk_lt (g:=gb117) (o:=.cells #[.string a0_0,.slice A0_1 l0_1.length c0_1,.int .i64 a0_2,.slice (some ad119) l0_3.length c0_3] 25 (0,0)) (aB_ BK117.out)):gb120≠gb117));clear BK117;clear HB;have BK117:=n0_;have HB:=n1_;have BK120:=n2_;have GW120:=n3_;have GE120:=n4_;have NB117_120:=n5_;have NB120_117:=n6_;clear n0_ n1_ n2_ n3_ n4_ n5_ n6_;clear hb hbox hg;have hnb20:=NB120_117.out;have hnc20:=NB117_120.out;have hcz21_0:w19.cell? ⟨gb120,0,none⟩=some (.int .i64 0):=(zAB BK120.out 0).trans rfl;have hcz21_1:w19.cell? ⟨gb120,1,none⟩=some (.int .i64 0):=(zAB BK120.out 1).trans rfl;have hcz21_2:w19.cell? ⟨gb120,2,none⟩=some (.int .i64 0):=(zAB BK120.out 2).trans rfl;have hcz21_3:w19.cell? ⟨gb120,3,none⟩=some (.int .i64 0):=(zAB BK120.out 3).trans rfl;have hcz21_4:w19.cell? ⟨gb120,4,none⟩=some (.slice none 0 0):=(zAB BK120.out 4).trans rfl;have hcz21_5:w19.cell? ⟨gb120,5,none⟩=some (.int .i64 0):=(zAB BK120.out 5).trans rfl;have hfz21_0:=zAA BK120.out 0;have hfz21_1:=zAA BK120.out 1;have hfz21_2:=zAA BK120.out 2;have hfz21_3:=zAA BK120.out 3;have hfz21_4:=zAA BK120.out 4;have hfz21_5:=zAA BK120.out 5;have hcz22_0:w19.cell? ⟨gb117,0,none⟩=some (.string a0_0):=(zAB BK117.out 0).trans rfl;have hcz22_1:w19.cell? ⟨gb117,1,none⟩=some (.slice A0_1 l0_1.length c0_1):=(zAB BK117.out 1).trans rfl;have hcz22_2:w19.cell? ⟨gb117,2,none⟩=some (.int .i64 a0_2):=(zAB BK117.out 2).trans rfl;have hcz22_3:w19.cell? ⟨gb117,3,none⟩=some (.slice (some ad119) l0_3.length c0_3):=(zAB BK117.out 3).trans rfl;have hfz22_0:=zAA BK117.out 0;have hfz22_1:=zAA BK117.out 1;have hfz22_2:=zAA BK117.out 2;have hfz22_3:=zAA BK117.out 3)|((with_reducible refine gate_callee (f:=38) rfl ?_);refine goesL_ (some 31) rfl rfl Tryd.func38 (by kernel_rfl) rfl #[.agg #[.int .i64 ((zAC l0_3 x21_1).f0),.int .i64 ((zAC l0_3 x21_1).f1),.int .i64 ((zAC l0_3 x21_1).f2),.int .i64 ((zAC l0_3 x21_1).f3),.slice A119_4 ((zAC l0_3 x21_1).f4).length c119_4,.int .i64 ((zAC l0_3 x21_1).f5)],.int .i64 (l0_1.length:Int),.int .i64 x5_1] rfl aM_ ?_;(with_reducible refine (tree_node.calls k1 ((zAC l0_3 x21_1).f0) ((zAC l0_3 x21_1).f1) ((zAC l0_3 x21_1).f2) ((zAC l0_3 x21_1).f3) _ _ ((zAC l0_3 x21_1).f4) ((zAC l0_3 x21_1).f5) (l0_1.length:Int) x5_1 t121 _ ?side1 ?side2 ?side3 A16.out).mono ?_);(case side1=>(first|(with_reducible exact hG)|((repeat (with_reducible first|exact hG|apply GW.drewN|apply GW.drew|apply GW.alloc));done)|exact GW.below hG (aJ_ HB.out GE117.out GE120.out)));(case side2=>exact Kd.C_below HR119_4.out (aJ_ HB.out GE117.out GE120.out));(case side3=>exact HC119_4.out);rintro e w23 ⟨rfl,hb⟩;refine ⟨_,rfl,?_⟩;have n0_:=aK_ (zAN (g:=gb117) (o:=.cells #[.string a0_0,.slice A0_1 l0_1.length c0_1,.int .i64 a0_2,.slice (some ad119) l0_3.length c0_3] 25 (0,0)) (by refine aB_ ?_;refine blk_far ?_ NB117_120.out _;refine aB_ ?_;refine blk_far ?_ NB117_120.out _;refine aB_ ?_;refine blk_far ?_ NB117_120.out _;refine aB_ ?_;refine blk_far ?_ NB117_120.out _;refine aB_ ?_;refine blk_far ?_ NB117_120.out _;refine aB_ ?_;refine blk_far ?_ NB117_120.out _;refine aB_ ?_;exact BK117.out) hb);have n1_:=aK_ (zAN (g:=gb120) (o:=.cells #[.int .i64 ((zAC l0_3 x21_1).f0),.int .i64 ((zAC l0_3 x21_1).f1),.int .i64 ((zAC l0_3 x21_1).f2),.int .i64 ((zAC l0_3 x21_1).f3),.slice A119_4 ((zAC l0_3 x21_1).f4).length c119_4,.int .i64 ((zAC l0_3 x21_1).f5)] 33 (0,0)) (by refine aB_ ?_;refine blk_put (cs:=#[.int .i64 ((zAC l0_3 x21_1).f0),.int .i64 ((zAC l0_3 x21_1).f1),.int .i64 ((zAC l0_3 x21_1).f2),.int .i64 ((zAC l0_3 x21_1).f3),.slice A119_4 ((zAC l0_3 x21_1).f4).length c119_4,.int .i64 0]) ?_ 5 _ rfl;refine aB_ ?_;refine blk_put (cs:=#[.int .i64 ((zAC l0_3 x21_1).f0),.int .i64 ((zAC l0_3 x21_1).f1),.int .i64 ((zAC l0_3 x21_1).f2),.int .i64 ((zAC l0_3 x21_1).f3),.slice none 0 0,.int .i64 0]) ?_ 4 _ rfl;refine aB_ ?_;refine blk_put (cs:=#[.int .i64 ((zAC l0_3 x21_1).f0),.int .i64 ((zAC l0_3 x21_1).f1),.int .i64 ((zAC l0_3 x21_1).f2),.int .i64 0,.slice none 0 0,.int .i64 0]) ?_ 3 _ rfl;refine aB_ ?_;refine blk_put (cs:=#[.int .i64 ((zAC l0_3 x21_1).f0),.int .i64 ((zAC l0_3 x21_1).f1),.int .i64 0,.int .i64 0,.slice none 0 0,.int .i64 0]) ?_ 2 _ rfl;refine aB_ ?_;refine blk_put (cs:=#[.int .i64 ((zAC l0_3 x21_1).f0),.int .i64 0,.int .i64 0,.int .i64 0,.slice none 0 0,.int .i64 0]) ?_ 1 _ rfl;refine aB_ ?_;refine blk_put (cs:=#[.int .i64 0,.int .i64 0,.int .i64 0,.int .i64 0,.slice none 0 0,.int .i64 0]) ?_ 0 _ rfl;refine aB_ ?_;exact BK120.out) hb);have n2_:=aK_ (zAH (aJ_ HB.out GE117.out GE120.out) hb);clear BK117;clear BK120;clear HB;have BK117:=n0_;have BK120:=n1_;have HB:=n2_;clear n0_ n1_ n2_;(try clear hb);(try clear hb2);(try clear hk);(try clear hi);have hcz24_0:w23.cell? ⟨gb120,0,none⟩=some (.int .i64 ((zAC l0_3 x21_1).f0)):=(zAB BK120.out 0).trans rfl;have hcz24_1:w23.cell? ⟨gb120,1,none⟩=some (.int .i64 ((zAC l0_3 x21_1).f1)):=(zAB BK120.out 1).trans rfl;have hcz24_2:w23.cell? ⟨gb120,2,none⟩=some (.int .i64 ((zAC l0_3 x21_1).f2)):=(zAB BK120.out 2).trans rfl;have hcz24_3:w23.cell? ⟨gb120,3,none⟩=some (.int .i64 ((zAC l0_3 x21_1).f3)):=(zAB BK120.out 3).trans rfl;have hcz24_4:w23.cell? ⟨gb120,4,none⟩=some (.slice A119_4 ((zAC l0_3 x21_1).f4).length c119_4):=(zAB BK120.out 4).trans rfl;have hcz24_5:w23.cell? ⟨gb120,5,none⟩=some (.int .i64 ((zAC l0_3 x21_1).f5)):=(zAB BK120.out 5).trans rfl;have hfz24_0:=zAA BK120.out 0;have hfz24_1:=zAA BK120.out 1;have hfz24_2:=zAA BK120.out 2;have hfz24_3:=zAA BK120.out 3;have hfz24_4:=zAA BK120.out 4;have hfz24_5:=zAA BK120.out 5)|((with_reducible refine gate_callee (f:=39) rfl ?_);refine goesL_ (some 38) rfl rfl Tryd.func39 (by kernel_rfl) rfl #[.agg #[.int .i64 ((zAC l0_3 x21_1).f0),.int .i64 ((zAC l0_3 x21_1).f1),.int .i64 ((zAC l0_3 x21_1).f2),.int .i64 ((zAC l0_3 x21_1).f3),.slice A119_4 ((zAC l0_3 x21_1).f4).length c119_4,.int .i64 ((zAC l0_3 x21_1).f5)]] rfl aM_ ?_;(with_reducible refine (tree_takes.calls ((zAC l0_3 x21_1).f0) ((zAC l0_3 x21_1).f1) ((zAC l0_3 x21_1).f2) ((zAC l0_3 x21_1).f3) _ _ ((zAC l0_3 x21_1).f4) ((zAC l0_3 x21_1).f5) t122 _ ?side1 ?side2 ?side3 A18.out).mono ?_);(case side1=>(first|(with_reducible exact hG)|((repeat (with_reducible first|exact hG|apply GW.drewN|apply GW.drew|apply GW.alloc));done)|exact GW.below hG (aJ_ HB.out GE117.out GE120.out)));(case side2=>repeat (first|exact (Kd.C_below HR119_4.out HB.out)|(with_reducible refine Kd.C_alloc ?_ _)|(with_reducible refine Kd.C_drewN ?_ _)|(with_reducible refine Kd.C_drew ?_)));(case side3=>exact HC119_4.out);rintro e w25 ⟨rfl,hb⟩;refine ⟨_,rfl,?_⟩;have n0_:=aK_ (zAN (g:=gb117) (o:=.cells #[.string a0_0,.slice A0_1 l0_1.length c0_1,.int .i64 a0_2,.slice (some ad119) l0_3.length c0_3] 25 (0,0)) (aB_ BK117.out) hb);have n1_:=aK_ (zAN (g:=gb120) (o:=.cells #[.int .i64 ((zAC l0_3 x21_1).f0),.int .i64 ((zAC l0_3 x21_1).f1),.int .i64 ((zAC l0_3 x21_1).f2),.int .i64 ((zAC l0_3 x21_1).f3),.slice A119_4 ((zAC l0_3 x21_1).f4).length c119_4,.int .i64 ((zAC l0_3 x21_1).f5)] 33 (0,0)) (aB_ BK120.out) hb);have n2_:=aK_ (zAH (aJ_ HB.out GE117.out GE120.out) hb);clear BK117;clear BK120;clear HB;have BK117:=n0_;have BK120:=n1_;have HB:=n2_;clear n0_ n1_ n2_;(try clear hb);(try clear hb2);(try clear hk);(try clear hi)))
 go_roundg k1
 case measure=>have:=HK1.out;omega
 case rel=>exact ⟨(wrap64 (x5_1+(wrap64 (1 - t122)))),(wrap64 (x21_1+1)),aS2_,aS2_,H',⟨by have:=HK1.out;omega⟩,⟨aB_ BK117.out⟩,⟨aJ_ HB.out GE117.out GE120.out⟩⟩
end Go.Proofs.YthbnigjckjkmnaaDoor.S

namespace Go.Proofs.YthbnigjckjkmnaaDoor.S
open Go.RowKit Go.Proofs.YthbnigjckjkmnaaDoorW.PrintWords Go.Proofs.YthbnigjckjkmnaaDoorW.PrintLast Go.Proofs.YthbnigjckjkmnaaDoorW.PrintMore
attribute [local go_sem] max2_int min2_int max_two min_two max_three min_three max_four min_four
def tree_Firsts.f (k:Nat) (a0_0:ByteArray) (l0_1:List (S47)) (a0_2:Int) (l0_3:List (S33)):Option (List Int × Int):=(tree_Check.f k a0_0 l0_1 a0_2 l0_3).bind fun bt146=>(if bt146.2=0 then ((tree_firsts.f k a0_0 l0_1 a0_2 l0_3).bind fun t148=>(some (t148,0))) else (some (([]:List Int),bt146.2)))
theorem tree_Firsts.mono:∀ a0 a1 a2 a3 k,LeO (tree_Firsts.f k a0 a1 a2 a3) (tree_Firsts.f (k+1) a0 a1 a2 a3):=by
 intro a0 a1 a2 a3 k
 unfold tree_Firsts.f
 repeat' first
   |(with_reducible exact tree_Check.mono _ _ _ _ _)
   |(with_reducible exact tree_firsts.mono _ _ _ _ _)
   |(with_reducible exact LeO.refl _)
   |(with_reducible exact LeO.none _)
   |(with_reducible refine LeO.ite ?_ ?_)
   |(with_reducible refine LeO.bind ?_ (fun _=>?_))
   |exact tree_Check.mono _ _ _ _ _
   |exact tree_firsts.mono _ _ _ _ _
   |exact LeO.none _
   |refine LeO.ite ?_ ?_
   |refine LeO.bind ?_ (fun _=>?_)
set_option maxHeartbeats 8000000 in
set_option maxRecDepth 100000 in
theorem tree_Firsts.calls (k:Nat) (a0_0:ByteArray) (A0_1:Option Addr) (c0_1:Nat) (l0_1:List (S47)) (a0_2:Int) (A0_3:Option Addr) (c0_3:Nat) (l0_3:List (S33)) (r1:List Int) (r2:Int) (w:World) (hG:GW w) (hr0_1:Kd.C k47 w A0_1 l0_1.length l0_1) (hc0_1:l0_1.length≤c0_1) (hr0_3:Kd.C k33 w A0_3 l0_3.length l0_3) (hc0_3:l0_3.length≤c0_3) (h:tree_Firsts.f k a0_0 l0_1 a0_2 l0_3=some (r1,r2)) :
  Calls Tryd.prog 23 #[.agg #[.string a0_0,.slice A0_1 l0_1.length c0_1,.int .i64 a0_2,.slice A0_3 l0_3.length c0_3]] w fun e w'=>∃ v0_:Value,e = .returned (.tuple #[v0_,.int .i64 r2])∧Kd.R (Kd.int .i64) 3 w' w.heap.size (fun _=>True) v0_ r1∧Below w.heap.size w w':=by
 have hu25:=Tryd.underlying25
 have HR0_1:=aK_ hr0_1
 have HC0_1:=aK_ hc0_1
 clear hr0_1 hc0_1
 have HR0_3:=aK_ hr0_3
 have HC0_3:=aK_ hc0_3
 clear hr0_3 hc0_3
 have HB:=aK_ (Below.refl w.heap.size w)
 have H:((tree_Check.f k a0_0 l0_1 a0_2 l0_3).bind fun bt146=>(if bt146.2=0 then ((tree_firsts.f k a0_0 l0_1 a0_2 l0_3).bind fun t148=>(some (t148,0))) else (some (([]:List Int),bt146.2))))=some (r1,r2):=h
 clear h
 replace H:=Option.bind_eq_some_iff.mp H
 obtain ⟨⟨t146,t147⟩,A20,H⟩:=H
 replace H:(if t147=0 then ((tree_firsts.f k a0_0 l0_1 a0_2 l0_3).bind fun t148=>(some (t148,0))) else (some (([]:List Int),t147)))=some (r1,r2):=H
 have A2:=aK_ A20
 clear A20
 by_cases c3:t147=0
 rotate_left
 ·rw [if_neg c3] at H
  have c3b0:(t147 == 0)=false:=beq_eq_false_iff_ne.mpr c3
  have c3b1:(t147 != 0)=true:=bne_iff_ne.mpr c3
  simp only [Option.some.injEq,Prod.mk.injEq] at H
  obtain ⟨rfl,rfl⟩:=H
  go_enter Tryd.func23,Tryd.ntmps23
  go_wp2_with (first|((with_reducible refine zAQ (N:=1) rfl ?_);refine zAS ?hg (N:=1) ?hd (cs:=#[.string a0_0,.slice A0_1 l0_1.length c0_1,.int .i64 a0_2,.slice A0_3 l0_3.length c0_3]) (t:=25) ?hr ?_;(case hd=>rfl);(case hg=>rfl);(case hr=>first|(go_simp;done)|(go_simp;rfl));intro gb145 hg w10 hbox hb;have n0_:=aK_ (zAH (aH_ HB.out) hb);have n1_:=aK_ (hbox);have n2_:=aK_ ((by rw [hg];exact (zAE (aH_ HB.out)):w.heap.size≤gb145));have n3_:=aK_ ((by rw [hg];exact (zAE (aH_ HB.out)):w.heap.size≤gb145));clear HB;have HB:=n0_;have BK145:=n1_;have GW145:=n2_;have GE145:=n3_;clear n0_ n1_ n2_ n3_;clear hb hbox hg;have hcz11_0:w10.cell? ⟨gb145,0,none⟩=some (.string a0_0):=(zAB BK145.out 0).trans rfl;have hcz11_1:w10.cell? ⟨gb145,1,none⟩=some (.slice A0_1 l0_1.length c0_1):=(zAB BK145.out 1).trans rfl;have hcz11_2:w10.cell? ⟨gb145,2,none⟩=some (.int .i64 a0_2):=(zAB BK145.out 2).trans rfl;have hcz11_3:w10.cell? ⟨gb145,3,none⟩=some (.slice A0_3 l0_3.length c0_3):=(zAB BK145.out 3).trans rfl;have hfz11_0:=zAA BK145.out 0;have hfz11_1:=zAA BK145.out 1;have hfz11_2:=zAA BK145.out 2;have hfz11_3:=zAA BK145.out 3)|((with_reducible refine gate_callee (f:=16) rfl ?_);refine goesL_ (some 8) rfl rfl Tryd.func16 (by kernel_rfl) rfl #[.agg #[.string a0_0,.slice A0_1 l0_1.length c0_1,.int .i64 a0_2,.slice A0_3 l0_3.length c0_3]] rfl aM_ ?_;(with_reducible refine (tree_Check.calls k a0_0 _ _ l0_1 a0_2 _ _ l0_3 t146 t147 _ ?side1 ?side2 ?side3 ?side4 ?side5 A2.out).mono ?_);(case side1=>(first|(with_reducible exact hG)|((repeat (with_reducible first|exact hG|apply GW.drewN|apply GW.drew|apply GW.alloc));done)|exact GW.below hG (aI_ HB.out GE145.out)));(case side2=>repeat (first|exact (Kd.C_below HR0_1.out HB.out)|(with_reducible refine Kd.C_alloc ?_ _)|(with_reducible refine Kd.C_drewN ?_ _)|(with_reducible refine Kd.C_drew ?_)));(case side3=>exact HC0_1.out);(case side4=>repeat (first|exact (Kd.C_below HR0_3.out HB.out)|(with_reducible refine Kd.C_alloc ?_ _)|(with_reducible refine Kd.C_drewN ?_ _)|(with_reducible refine Kd.C_drew ?_)));(case side5=>exact HC0_3.out);rintro e w12 ⟨rfl,hb⟩;refine ⟨_,rfl,?_⟩;have n0_:=aK_ (zAN (g:=gb145) (o:=.cells #[.string a0_0,.slice A0_1 l0_1.length c0_1,.int .i64 a0_2,.slice A0_3 l0_3.length c0_3] 25 (0,0)) (aB_ BK145.out) hb);have n1_:=aK_ (zAH (aI_ HB.out GE145.out) hb);clear BK145;clear HB;have BK145:=n0_;have HB:=n1_;clear n0_ n1_;(try clear hb);(try clear hb2);(try clear hk);(try clear hi)))
  go_ret2
  exact ⟨_,by first|rfl|(simp [zAL,zAK] <;> rfl)|(simp [*,zAL,zAK] <;> rfl),by first|exact Kd.R_nil _ _ _ _ _|exact Kd.N_nil _ _ _ _ _|exact Kd.V_nil _ _ _ _ _|exact Kd.Q_nil _ _ _ _ _|exact Kd.S_nil _ _ _ _ _,aI_ HB.out GE145.out⟩
 rw [if_pos c3] at H
 have c3b0:(t147 == 0)=true:=beq_iff_eq.mpr c3
 have c3b1:(t147 != 0)=false:=bne_eq_false_iff_eq.mpr c3
 clear c3
 replace H:=Option.bind_eq_some_iff.mp H
 obtain ⟨t148,A40,H⟩:=H
 replace H:(some (t148,0))=some (r1,r2):=H
 have A4:=aK_ A40
 clear A40
 simp only [Option.some.injEq,Prod.mk.injEq] at H
 obtain ⟨rfl,rfl⟩:=H
 go_enter Tryd.func23,Tryd.ntmps23
 go_wp2_with (first|((with_reducible refine zAQ (N:=1) rfl ?_);refine zAS ?hg (N:=1) ?hd (cs:=#[.string a0_0,.slice A0_1 l0_1.length c0_1,.int .i64 a0_2,.slice A0_3 l0_3.length c0_3]) (t:=25) ?hr ?_;(case hd=>rfl);(case hg=>rfl);(case hr=>first|(go_simp;done)|(go_simp;rfl));intro gb145 hg w5 hbox hb;have n0_:=aK_ (zAH (aH_ HB.out) hb);have n1_:=aK_ (hbox);have n2_:=aK_ ((by rw [hg];exact (zAE (aH_ HB.out)):w.heap.size≤gb145));have n3_:=aK_ ((by rw [hg];exact (zAE (aH_ HB.out)):w.heap.size≤gb145));clear HB;have HB:=n0_;have BK145:=n1_;have GW145:=n2_;have GE145:=n3_;clear n0_ n1_ n2_ n3_;clear hb hbox hg;have hcz6_0:w5.cell? ⟨gb145,0,none⟩=some (.string a0_0):=(zAB BK145.out 0).trans rfl;have hcz6_1:w5.cell? ⟨gb145,1,none⟩=some (.slice A0_1 l0_1.length c0_1):=(zAB BK145.out 1).trans rfl;have hcz6_2:w5.cell? ⟨gb145,2,none⟩=some (.int .i64 a0_2):=(zAB BK145.out 2).trans rfl;have hcz6_3:w5.cell? ⟨gb145,3,none⟩=some (.slice A0_3 l0_3.length c0_3):=(zAB BK145.out 3).trans rfl;have hfz6_0:=zAA BK145.out 0;have hfz6_1:=zAA BK145.out 1;have hfz6_2:=zAA BK145.out 2;have hfz6_3:=zAA BK145.out 3)|((with_reducible refine gate_callee (f:=16) rfl ?_);refine goesL_ (some 8) rfl rfl Tryd.func16 (by kernel_rfl) rfl #[.agg #[.string a0_0,.slice A0_1 l0_1.length c0_1,.int .i64 a0_2,.slice A0_3 l0_3.length c0_3]] rfl aM_ ?_;(with_reducible refine (tree_Check.calls k a0_0 _ _ l0_1 a0_2 _ _ l0_3 t146 t147 _ ?side1 ?side2 ?side3 ?side4 ?side5 A2.out).mono ?_);(case side1=>(first|(with_reducible exact hG)|((repeat (with_reducible first|exact hG|apply GW.drewN|apply GW.drew|apply GW.alloc));done)|exact GW.below hG (aI_ HB.out GE145.out)));(case side2=>repeat (first|exact (Kd.C_below HR0_1.out HB.out)|(with_reducible refine Kd.C_alloc ?_ _)|(with_reducible refine Kd.C_drewN ?_ _)|(with_reducible refine Kd.C_drew ?_)));(case side3=>exact HC0_1.out);(case side4=>repeat (first|exact (Kd.C_below HR0_3.out HB.out)|(with_reducible refine Kd.C_alloc ?_ _)|(with_reducible refine Kd.C_drewN ?_ _)|(with_reducible refine Kd.C_drew ?_)));(case side5=>exact HC0_3.out);rintro e w7 ⟨rfl,hb⟩;refine ⟨_,rfl,?_⟩;have n0_:=aK_ (zAN (g:=gb145) (o:=.cells #[.string a0_0,.slice A0_1 l0_1.length c0_1,.int .i64 a0_2,.slice A0_3 l0_3.length c0_3] 25 (0,0)) (aB_ BK145.out) hb);have n1_:=aK_ (zAH (aI_ HB.out GE145.out) hb);clear BK145;clear HB;have BK145:=n0_;have HB:=n1_;clear n0_ n1_;(try clear hb);(try clear hb2);(try clear hk);(try clear hi);have hcz8_0:w7.cell? ⟨gb145,0,none⟩=some (.string a0_0):=(zAB BK145.out 0).trans rfl;have hcz8_1:w7.cell? ⟨gb145,1,none⟩=some (.slice A0_1 l0_1.length c0_1):=(zAB BK145.out 1).trans rfl;have hcz8_2:w7.cell? ⟨gb145,2,none⟩=some (.int .i64 a0_2):=(zAB BK145.out 2).trans rfl;have hcz8_3:w7.cell? ⟨gb145,3,none⟩=some (.slice A0_3 l0_3.length c0_3):=(zAB BK145.out 3).trans rfl;have hfz8_0:=zAA BK145.out 0;have hfz8_1:=zAA BK145.out 1;have hfz8_2:=zAA BK145.out 2;have hfz8_3:=zAA BK145.out 3)|((with_reducible refine gate_callee (f:=51) rfl ?_);refine goesL_ (some 15) rfl rfl Tryd.func51 (by kernel_rfl) rfl #[.agg #[.string a0_0,.slice A0_1 l0_1.length c0_1,.int .i64 a0_2,.slice A0_3 l0_3.length c0_3]] rfl aM_ ?_;(with_reducible refine (tree_firsts.calls k a0_0 _ _ l0_1 a0_2 _ _ l0_3 t148 _ ?side1 ?side2 ?side3 ?side4 ?side5 A4.out).mono ?_);(case side1=>(first|(with_reducible exact hG)|((repeat (with_reducible first|exact hG|apply GW.drewN|apply GW.drew|apply GW.alloc));done)|exact GW.below hG (aI_ HB.out GE145.out)));(case side2=>repeat (first|exact (Kd.C_below HR0_1.out HB.out)|(with_reducible refine Kd.C_alloc ?_ _)|(with_reducible refine Kd.C_drewN ?_ _)|(with_reducible refine Kd.C_drew ?_)));(case side3=>exact HC0_1.out);(case side4=>repeat (first|exact (Kd.C_below HR0_3.out HB.out)|(with_reducible refine Kd.C_alloc ?_ _)|(with_reducible refine Kd.C_drewN ?_ _)|(with_reducible refine Kd.C_drew ?_)));(case side5=>exact HC0_3.out);rintro e w9 ⟨v149,rfl,ho0,hb⟩;refine ⟨_,rfl,?_⟩;have n0_:=aK_ (Kd.R_lower ho0 (zAE (aI_ HB.out GE145.out)));have n1_:=aK_ (zAN (g:=gb145) (o:=.cells #[.string a0_0,.slice A0_1 l0_1.length c0_1,.int .i64 a0_2,.slice A0_3 l0_3.length c0_3] 25 (0,0)) (aB_ BK145.out) hb);have n2_:=aK_ (zAH (aI_ HB.out GE145.out) hb);clear BK145;clear HB;have HO150:=n0_;have BK145:=n1_;have HB:=n2_;clear n0_ n1_ n2_;(try clear hb);(try clear hb2);(try clear hk);(try clear hi);(try clear ho0)))
 go_ret2
 exact ⟨_,by first|rfl|(simp [zAL,zAK] <;> rfl)|(simp [*,zAL,zAK] <;> rfl),by refine aR_ ?_;exact HO150.out,aI_ HB.out GE145.out⟩
end Go.Proofs.YthbnigjckjkmnaaDoor.S

namespace Go.Proofs.YthbnigjckjkmnaaDoor.S
open Go.RowKit Go.Proofs.YthbnigjckjkmnaaDoorW.PrintWords Go.Proofs.YthbnigjckjkmnaaDoorW.PrintLast Go.Proofs.YthbnigjckjkmnaaDoorW.PrintMore
attribute [local go_sem] max2_int min2_int max_two min_two max_three min_three max_four min_four
def zAV.l0:Nat→List Int→Int→List Bool→List (S33)→Int→Int→Option (List Bool × Int)
 |0,_,_,_,_,_,_=>none
 |k+1,x4,x6,x7,x22,x23,x24=>if x24<x23 then (if 0≤x24 then (if x24<(x22.length:Int) then (if ((zAC x22 x24).f0)=3 then (if x24<(x4.length:Int) then (if x24<(x7.length:Int) then (zAV.l0 k x4 x24 (x7.set (x24:Int).toNat (decide (x24<(rd x4 x24)))) x22 x23 (wrap64 (x24+1))) else (none)) else (none)) else (if ((zAC x22 x24).f0)=4 then (if x24<(x4.length:Int) then (if x24<(x7.length:Int) then (zAV.l0 k x4 x24 (x7.set (x24:Int).toNat (decide (x24<(rd x4 x24)))) x22 x23 (wrap64 (x24+1))) else (none)) else (none)) else (if x24<(x4.length:Int) then (if x24<(x7.length:Int) then (zAV.l0 k x4 x6 (x7.set (x24:Int).toNat (decide (x6<(rd x4 x24)))) x22 x23 (wrap64 (x24+1))) else (none)) else (none)))) else (none)) else (none)) else (some (x7,0))
def zAV.f (k:Nat) (a0_0:ByteArray) (l0_1:List (S47)) (a0_2:Int) (l0_3:List (S33)):Option (List Bool × Int):=(tree_Firsts.f k a0_0 l0_1 a0_2 l0_3).bind fun bt462=>(if bt462.2=0 then (if 0≤(bt462.1.length:Int) then (if ((bt462.1.length:Int):Int).toNat≤281474976710656 then (zAV.l0 k bt462.1 (-1) (List.replicate ((bt462.1.length:Int):Int).toNat false) l0_3 (l0_3.length:Int) 0) else (none)) else (none)) else (some (([]:List Bool),bt462.2)))
theorem zAV.mono_l:∀ k,(∀ y0 y1 y2 y3 y4 y5,LeO (zAV.l0 k y0 y1 y2 y3 y4 y5) (zAV.l0 (k+1) y0 y1 y2 y3 y4 y5))
 |0=>fun _ _ _ _ _ _ r h=>by simp [zAV.l0] at h
 |k+1=>by
  have ih0:=zAV.mono_l k
  ·intro y0 y1 y2 y3 y4 y5
   unfold zAV.l0
   repeat' first
   |(with_reducible exact ih0 _ _ _ _ _ _)
   |(with_reducible exact tree_Firsts.mono _ _ _ _ _)
   |(with_reducible exact LeO.refl _)
   |(with_reducible exact LeO.none _)
   |(with_reducible refine LeO.ite ?_ ?_)
   |(with_reducible refine LeO.bind ?_ (fun _=>?_))
   |exact ih0 _ _ _ _ _ _
   |exact tree_Firsts.mono _ _ _ _ _
   |exact LeO.none _
   |refine LeO.ite ?_ ?_
   |refine LeO.bind ?_ (fun _=>?_)
theorem zAV.mono:∀ a0 a1 a2 a3 k,LeO (zAV.f k a0 a1 a2 a3) (zAV.f (k+1) a0 a1 a2 a3):=by
 intro a0 a1 a2 a3 k
 have ih0:=zAV.mono_l k
 unfold zAV.f
 repeat' first
   |(with_reducible exact ih0 _ _ _ _ _ _)
   |(with_reducible exact tree_Firsts.mono _ _ _ _ _)
   |(with_reducible exact LeO.refl _)
   |(with_reducible exact LeO.none _)
   |(with_reducible refine LeO.ite ?_ ?_)
   |(with_reducible refine LeO.bind ?_ (fun _=>?_))
   |exact ih0 _ _ _ _ _ _
   |exact tree_Firsts.mono _ _ _ _ _
   |exact LeO.none _
   |refine LeO.ite ?_ ?_
   |refine LeO.bind ?_ (fun _=>?_)
set_option maxHeartbeats 8000000 in
set_option maxRecDepth 100000 in
theorem zAV.calls (k:Nat) (a0_0:ByteArray) (A0_1:Option Addr) (c0_1:Nat) (l0_1:List (S47)) (a0_2:Int) (A0_3:Option Addr) (c0_3:Nat) (l0_3:List (S33)) (r1:List Bool) (r2:Int) (w:World) (hG:GW w) (hr0_1:Kd.C k47 w A0_1 l0_1.length l0_1) (hc0_1:l0_1.length≤c0_1) (hr0_3:Kd.C k33 w A0_3 l0_3.length l0_3) (hc0_3:l0_3.length≤c0_3) (h:zAV.f k a0_0 l0_1 a0_2 l0_3=some (r1,r2)) :
  Calls Tryd.prog 27 #[.agg #[.string a0_0,.slice A0_1 l0_1.length c0_1,.int .i64 a0_2,.slice A0_3 l0_3.length c0_3]] w fun e w'=>∃ v0_:Value,e = .returned (.tuple #[v0_,.int .i64 r2])∧Kd.R Kd.bool 4 w' w.heap.size (fun _=>True) v0_ r1∧Below w.heap.size w w':=by
 have hu25:=Tryd.underlying25
 have hu33:=Tryd.underlying33
 have HR0_1:=aK_ hr0_1
 have HC0_1:=aK_ hc0_1
 clear hr0_1 hc0_1
 have HR0_3:=aK_ hr0_3
 have HC0_3:=aK_ hc0_3
 clear hr0_3 hc0_3
 have HB:=aK_ (Below.refl w.heap.size w)
 have H:((tree_Firsts.f k a0_0 l0_1 a0_2 l0_3).bind fun bt462=>(if bt462.2=0 then (if 0≤(bt462.1.length:Int) then (if ((bt462.1.length:Int):Int).toNat≤281474976710656 then (zAV.l0 k bt462.1 (-1) (List.replicate ((bt462.1.length:Int):Int).toNat false) l0_3 (l0_3.length:Int) 0) else (none)) else (none)) else (some (([]:List Bool),bt462.2))))=some (r1,r2):=h
 clear h
 replace H:=Option.bind_eq_some_iff.mp H
 obtain ⟨⟨t462,t465⟩,A20,H⟩:=H
 replace H:(if t465=0 then (if 0≤(t462.length:Int) then (if ((t462.length:Int):Int).toNat≤281474976710656 then (zAV.l0 k t462 (-1) (List.replicate ((t462.length:Int):Int).toNat false) l0_3 (l0_3.length:Int) 0) else (none)) else (none)) else (some (([]:List Bool),t465)))=some (r1,r2):=H
 have A2:=aK_ A20
 clear A20
 by_cases c3:t465=0
 rotate_left
 ·rw [if_neg c3] at H
  have c3b0:(t465 == 0)=false:=beq_eq_false_iff_ne.mpr c3
  have c3b1:(t465 != 0)=true:=bne_iff_ne.mpr c3
  simp only [Option.some.injEq,Prod.mk.injEq] at H
  obtain ⟨rfl,rfl⟩:=H
  go_enter Tryd.func27,Tryd.ntmps27
  go_wp2_with (first|((with_reducible refine zAQ (N:=1) rfl ?_);refine zAS ?hg (N:=1) ?hd (cs:=#[.string a0_0,.slice A0_1 l0_1.length c0_1,.int .i64 a0_2,.slice A0_3 l0_3.length c0_3]) (t:=25) ?hr ?_;(case hd=>rfl);(case hg=>rfl);(case hr=>first|(go_simp;done)|(go_simp;rfl));intro gb461 hg w48 hbox hb;have n0_:=aK_ (zAH (aH_ HB.out) hb);have n1_:=aK_ (hbox);have n2_:=aK_ ((by rw [hg];exact (zAE (aH_ HB.out)):w.heap.size≤gb461));have n3_:=aK_ ((by rw [hg];exact (zAE (aH_ HB.out)):w.heap.size≤gb461));clear HB;have HB:=n0_;have BK461:=n1_;have GW461:=n2_;have GE461:=n3_;clear n0_ n1_ n2_ n3_;clear hb hbox hg;have hcz49_0:w48.cell? ⟨gb461,0,none⟩=some (.string a0_0):=(zAB BK461.out 0).trans rfl;have hcz49_1:w48.cell? ⟨gb461,1,none⟩=some (.slice A0_1 l0_1.length c0_1):=(zAB BK461.out 1).trans rfl;have hcz49_2:w48.cell? ⟨gb461,2,none⟩=some (.int .i64 a0_2):=(zAB BK461.out 2).trans rfl;have hcz49_3:w48.cell? ⟨gb461,3,none⟩=some (.slice A0_3 l0_3.length c0_3):=(zAB BK461.out 3).trans rfl;have hfz49_0:=zAA BK461.out 0;have hfz49_1:=zAA BK461.out 1;have hfz49_2:=zAA BK461.out 2;have hfz49_3:=zAA BK461.out 3)|((with_reducible refine gate_callee (f:=23) rfl ?_);refine goesL_ (some 12) rfl rfl Tryd.func23 (by kernel_rfl) rfl #[.agg #[.string a0_0,.slice A0_1 l0_1.length c0_1,.int .i64 a0_2,.slice A0_3 l0_3.length c0_3]] rfl aM_ ?_;(with_reducible refine (tree_Firsts.calls k a0_0 _ _ l0_1 a0_2 _ _ l0_3 t462 t465 _ ?side1 ?side2 ?side3 ?side4 ?side5 A2.out).mono ?_);(case side1=>(first|(with_reducible exact hG)|((repeat (with_reducible first|exact hG|apply GW.drewN|apply GW.drew|apply GW.alloc));done)|exact GW.below hG (aI_ HB.out GE461.out)));(case side2=>repeat (first|exact (Kd.C_below HR0_1.out HB.out)|(with_reducible refine Kd.C_alloc ?_ _)|(with_reducible refine Kd.C_drewN ?_ _)|(with_reducible refine Kd.C_drew ?_)));(case side3=>exact HC0_1.out);(case side4=>repeat (first|exact (Kd.C_below HR0_3.out HB.out)|(with_reducible refine Kd.C_alloc ?_ _)|(with_reducible refine Kd.C_drewN ?_ _)|(with_reducible refine Kd.C_drew ?_)));(case side5=>exact HC0_3.out);rintro e w50 ⟨v463,rfl,ho0,hb⟩;refine ⟨_,rfl,?_⟩;have n0_:=aK_ (Kd.R_lower ho0 (zAE (aI_ HB.out GE461.out)));have n1_:=aK_ (zAN (g:=gb461) (o:=.cells #[.string a0_0,.slice A0_1 l0_1.length c0_1,.int .i64 a0_2,.slice A0_3 l0_3.length c0_3] 25 (0,0)) (aB_ BK461.out) hb);have n2_:=aK_ (zAH (aI_ HB.out GE461.out) hb);clear BK461;clear HB;have HO464:=n0_;have BK461:=n1_;have HB:=n2_;clear n0_ n1_ n2_;(try clear hb);(try clear hb2);(try clear hk);(try clear hi);(try clear ho0)))
  go_ret2
  exact ⟨_,by first|rfl|(simp [zAL,zAK] <;> rfl)|(simp [*,zAL,zAK] <;> rfl),by first|exact Kd.R_nil _ _ _ _ _|exact Kd.N_nil _ _ _ _ _|exact Kd.V_nil _ _ _ _ _|exact Kd.Q_nil _ _ _ _ _|exact Kd.S_nil _ _ _ _ _,aI_ HB.out GE461.out⟩
 rw [if_pos c3] at H
 have c3b0:(t465 == 0)=true:=beq_iff_eq.mpr c3
 have c3b1:(t465 != 0)=false:=bne_eq_false_iff_eq.mpr c3
 clear c3
 have c4:=yes_ H
 rw [if_pos c4] at H
 have c4b0:=eq_true c4
 have c4b1:decide (0≤(t462.length:Int))=true:=decide_eq_true c4
 clear c4
 have c5:=yes_ H
 rw [if_pos c5] at H
 have c5b0:=eq_true c5
 have c5b1:decide (((t462.length:Int):Int).toNat≤281474976710656)=true:=decide_eq_true c5
 clear c5
 obtain ⟨y466,hy466⟩:∃ y_:List Bool,y_=(List.replicate ((t462.length:Int):Int).toNat false):=⟨_,rfl⟩
 replace H:(zAV.l0 k t462 (-1) y466 l0_3 (l0_3.length:Int) 0)=some (r1,r2):=by first|(rw [hy466];with_reducible exact H)|(have H2_:=(Option.bind_some _ _).symm.trans H;rw [hy466];with_reducible exact H2_)|(have H2_:=(Option.bind_some _ _).symm.trans H;with_reducible exact H2_)|with_reducible exact H|(rw [hy466];exact H)|exact H
 have Ny466:=aK_ hy466
 clear hy466
 have H':=aK_ H
 clear H
 go_enter Tryd.func27,Tryd.ntmps27
 go_wp2_with (first|((with_reducible refine zAQ (N:=1) rfl ?_);refine zAS ?hg (N:=1) ?hd (cs:=#[.string a0_0,.slice A0_1 l0_1.length c0_1,.int .i64 a0_2,.slice A0_3 l0_3.length c0_3]) (t:=25) ?hr ?_;(case hd=>rfl);(case hg=>rfl);(case hr=>first|(go_simp;done)|(go_simp;rfl));intro gb461 hg w6 hbox hb;have n0_:=aK_ (zAH (aH_ HB.out) hb);have n1_:=aK_ (hbox);have n2_:=aK_ ((by rw [hg];exact (zAE (aH_ HB.out)):w.heap.size≤gb461));have n3_:=aK_ ((by rw [hg];exact (zAE (aH_ HB.out)):w.heap.size≤gb461));clear HB;have HB:=n0_;have BK461:=n1_;have GW461:=n2_;have GE461:=n3_;clear n0_ n1_ n2_ n3_;clear hb hbox hg;have hcz7_0:w6.cell? ⟨gb461,0,none⟩=some (.string a0_0):=(zAB BK461.out 0).trans rfl;have hcz7_1:w6.cell? ⟨gb461,1,none⟩=some (.slice A0_1 l0_1.length c0_1):=(zAB BK461.out 1).trans rfl;have hcz7_2:w6.cell? ⟨gb461,2,none⟩=some (.int .i64 a0_2):=(zAB BK461.out 2).trans rfl;have hcz7_3:w6.cell? ⟨gb461,3,none⟩=some (.slice A0_3 l0_3.length c0_3):=(zAB BK461.out 3).trans rfl;have hfz7_0:=zAA BK461.out 0;have hfz7_1:=zAA BK461.out 1;have hfz7_2:=zAA BK461.out 2;have hfz7_3:=zAA BK461.out 3)|((with_reducible refine gate_callee (f:=23) rfl ?_);refine goesL_ (some 12) rfl rfl Tryd.func23 (by kernel_rfl) rfl #[.agg #[.string a0_0,.slice A0_1 l0_1.length c0_1,.int .i64 a0_2,.slice A0_3 l0_3.length c0_3]] rfl aM_ ?_;(with_reducible refine (tree_Firsts.calls k a0_0 _ _ l0_1 a0_2 _ _ l0_3 t462 t465 _ ?side1 ?side2 ?side3 ?side4 ?side5 A2.out).mono ?_);(case side1=>(first|(with_reducible exact hG)|((repeat (with_reducible first|exact hG|apply GW.drewN|apply GW.drew|apply GW.alloc));done)|exact GW.below hG (aI_ HB.out GE461.out)));(case side2=>repeat (first|exact (Kd.C_below HR0_1.out HB.out)|(with_reducible refine Kd.C_alloc ?_ _)|(with_reducible refine Kd.C_drewN ?_ _)|(with_reducible refine Kd.C_drew ?_)));(case side3=>exact HC0_1.out);(case side4=>repeat (first|exact (Kd.C_below HR0_3.out HB.out)|(with_reducible refine Kd.C_alloc ?_ _)|(with_reducible refine Kd.C_drewN ?_ _)|(with_reducible refine Kd.C_drew ?_)));(case side5=>exact HC0_3.out);rintro e w8 ⟨v463,rfl,ho0,hb⟩;refine ⟨_,rfl,?_⟩;have n0_:=aK_ (Kd.R_lower ho0 (zAE (aI_ HB.out GE461.out)));have n1_:=aK_ (zAN (g:=gb461) (o:=.cells #[.string a0_0,.slice A0_1 l0_1.length c0_1,.int .i64 a0_2,.slice A0_3 l0_3.length c0_3] 25 (0,0)) (aB_ BK461.out) hb);have n2_:=aK_ (zAH (aI_ HB.out GE461.out) hb);clear BK461;clear HB;have HO464:=n0_;have BK461:=n1_;have HB:=n2_;clear n0_ n1_ n2_;(try clear hb);(try clear hb2);(try clear hk);(try clear hi);(try clear ho0);obtain ⟨Ao9,co9,eo9⟩:=Kd.R_slice HO464.out;subst eo9)|((with_reducible refine zAQ (N:=20) rfl ?_);refine Kd.R_make Kd.bool _ 4 rfl (N:=20) rfl 49 _ _ rfl (t462.length:Int) rfl rfl Tryd.underlying49 (.bool false) 1 info4 rfl (by decide) (by omega) false (ok:=fun _=>True) (okp:=fun _=>True) rfl (fun _ hk=>hk) trivial aD_ (Nat.le_trans (Nat.mul_le_mul_right _ (aD_:(t462.length:Int).toNat≤281474976710656)) (by omega)) (Below.refl _ _) (Nat.le_refl _) ?_;intro v467 w10 ho11 hb hg_ hnew_;clear hg_ hnew_;(first|rw [← Ny466.out] at ho11|(simp only [Int.reduceToNat] at ho11;rw [← Ny466.out] at ho11));have n0_:=aK_ (Kd.R_below (aR_ HO464.out) hb);have n1_:=aK_ (Kd.R_lower ho11 (zAE (aI_ HB.out GE461.out)));have n2_:=aK_ (zAN (g:=gb461) (o:=.cells #[.string a0_0,.slice A0_1 l0_1.length c0_1,.int .i64 a0_2,.slice A0_3 l0_3.length c0_3] 25 (0,0)) (aB_ BK461.out) hb);have n3_:=aK_ (zAH (aI_ HB.out GE461.out) hb);clear HO464;clear BK461;clear HB;have HO464:=n0_;have HO468:=n1_;have BK461:=n2_;have HB:=n3_;clear n0_ n1_ n2_ n3_;clear hb ho11;have hcz12_0:w10.cell? ⟨gb461,0,none⟩=some (.string a0_0):=(zAB BK461.out 0).trans rfl;have hcz12_1:w10.cell? ⟨gb461,1,none⟩=some (.slice A0_1 l0_1.length c0_1):=(zAB BK461.out 1).trans rfl;have hcz12_2:w10.cell? ⟨gb461,2,none⟩=some (.int .i64 a0_2):=(zAB BK461.out 2).trans rfl;have hcz12_3:w10.cell? ⟨gb461,3,none⟩=some (.slice A0_3 l0_3.length c0_3):=(zAB BK461.out 3).trans rfl;have hfz12_0:=zAA BK461.out 0;have hfz12_1:=zAA BK461.out 1;have hfz12_2:=zAA BK461.out 2;have hfz12_3:=zAA BK461.out 3))
 (try simp only [Act.put,List.setIfInBounds_toArray,List.set_cons_zero,List.set_cons_succ])
 go_loopg [6,24] k (fun kq v6 v24 w'=>∃ (x6_1:Int) (x7_1:List Bool) (x24_1:Int),v6 = .int .i64 x6_1∧v24 = .int .i64 x24_1∧zAO (zAV.l0 kq t462 x6_1 x7_1 l0_3 (l0_3.length:Int) x24_1=some (r1,r2))∧zAO (kq≤k)∧zAO (Kd.R (Kd.int .i64) 3 w' w.heap.size (fun _=>True) (.slice Ao9 t462.length co9) t462)∧zAO (Kd.R Kd.bool 4 w' w.heap.size (fun _=>True) v467 x7_1)∧zAO (w'.heap[gb461]?=some (.cells #[.string a0_0,(.slice A0_1 l0_1.length c0_1),.int .i64 a0_2,(.slice A0_3 l0_3.length c0_3)] 25 (0,0)))∧zAO (Below w.heap.size w w'))
 case atStart=>exact ⟨((-1)),(y466),(0),aS2_,aS2_,H',⟨Nat.le_refl _⟩,⟨aR_ HO464.out⟩,⟨aR_ HO468.out⟩,⟨aB_ BK461.out⟩,⟨aI_ HB.out GE461.out⟩⟩
 clear H'
 try clear c2
 try clear p2
 try clear c3
 try clear c3b0
 try clear c3b1
 try clear c4
 try clear c4b0
 try clear c4b1
 try clear c5
 try clear c5b0
 try clear c5b1
 try clear hcz12_0
 try clear hcz12_1
 try clear hcz12_2
 try clear hcz12_3
 try clear hcz7_0
 try clear hcz7_1
 try clear hcz7_2
 try clear hcz7_3
 try clear hfz12_0
 try clear hfz12_1
 try clear hfz12_2
 try clear hfz12_3
 try clear hfz7_0
 try clear hfz7_1
 try clear hfz7_2
 try clear hfz7_3
 obtain ⟨x6_1,x7_1,x24_1,rfl,rfl,HA,HK1,HO_4,HO_7,BK461,HB⟩:=hrel
 cases gk with
 |zero=>exact absurd HA.out (by simp [zAV.l0])
 |succ k1=>?_
 have H:=HA.out
 clear HA
 simp only [zAV.l0] at H
 by_cases c13:x24_1<(l0_3.length:Int)
 rotate_left
 ·rw [if_neg c13] at H
  have c13b0:decide (x24_1<(l0_3.length:Int))=false:=decide_eq_false c13
  clear c13
  simp only [Option.some.injEq,Prod.mk.injEq] at H
  obtain ⟨rfl,rfl⟩:=H
  go_wp2
  go_ret2
  exact ⟨_,by first|rfl|(simp [zAL,zAK] <;> rfl)|(simp [*,zAL,zAK] <;> rfl),by refine aR_ ?_;exact HO_7.out,aI_ HB.out GE461.out⟩
 rw [if_pos c13] at H
 have c13b0:decide (x24_1<(l0_3.length:Int))=true:=decide_eq_true c13
 clear c13
 have c14:=yes_ H
 rw [if_pos c14] at H
 have c14b0:decide (0≤x24_1)=true:=decide_eq_true c14
 clear c14
 have c15:=yes_ H
 rw [if_pos c15] at H
 have c15b0:decide (x24_1<(l0_3.length:Int))=true:=decide_eq_true c15
 clear c15
 by_cases c16:((zAC l0_3 x24_1).f0)=3
 ·rw [if_pos c16] at H
  have c16b0:(((zAC l0_3 x24_1).f0) == 3)=true:=beq_iff_eq.mpr c16
  have c16b1:(((zAC l0_3 x24_1).f0) != 3)=false:=bne_eq_false_iff_eq.mpr c16
  clear c16
  have c17:=yes_ H
  rw [if_pos c17] at H
  have c17b0:decide (x24_1<(t462.length:Int))=true:=decide_eq_true c17
  (try (have c17z0:=c17b0;simp only [hl469_4] at c17z0))
  clear c17
  have c18:=yes_ H
  rw [if_pos c18] at H
  have c18b0:decide (x24_1<(x7_1.length:Int))=true:=decide_eq_true c18
  clear c18
  obtain ⟨y472,hy472⟩:∃ y_:List Bool,y_=(x7_1.set (x24_1:Int).toNat (decide (x24_1<(rd t462 x24_1)))):=⟨_,rfl⟩
  replace H:(zAV.l0 k1 t462 x24_1 y472 l0_3 (l0_3.length:Int) (wrap64 (x24_1+1)))=some (r1,r2):=by first|(rw [hy472];with_reducible exact H)|(have H2_:=(Option.bind_some _ _).symm.trans H;rw [hy472];with_reducible exact H2_)|(have H2_:=(Option.bind_some _ _).symm.trans H;with_reducible exact H2_)|with_reducible exact H|(rw [hy472];exact H)|exact H
  have Ny472:=aK_ hy472
  clear hy472
  have H':=aK_ H
  clear H
  have p469:0≤(x24_1:Int):=aD_
  have q469:x24_1<(l0_3.length:Int):=aD_
  obtain ⟨ad469,A469_4,c469_4,e469,hx469_0,hx469_1,hx469_2,hx469_3,hx469_4,hx469_5,hl469_4,hi469_4⟩:=at_T33 HR0_3.out x24_1 p469 q469
  cases e469
  replace hx469_0:=(HB.out.cell (World.block_lt_of_cell? w _ hx469_0)).trans hx469_0
  replace hx469_1:=(HB.out.cell (World.block_lt_of_cell? w _ hx469_1)).trans hx469_1
  replace hx469_2:=(HB.out.cell (World.block_lt_of_cell? w _ hx469_2)).trans hx469_2
  replace hx469_3:=(HB.out.cell (World.block_lt_of_cell? w _ hx469_3)).trans hx469_3
  replace hx469_4:=(HB.out.cell (World.block_lt_of_cell? w _ hx469_4)).trans hx469_4
  replace hx469_5:=(HB.out.cell (World.block_lt_of_cell? w _ hx469_5)).trans hx469_5
  have HR469_4:=aK_ hi469_4
  have HC469_4:=aK_ hl469_4
  clear hi469_4 hl469_4
  replace p469:=eq_true p469
  replace q469:=eq_true q469
  go_wp2_with (first|((with_reducible refine zAQ (N:=9) rfl ?_);refine zAS ?hg (N:=9) ?hd (cs:=#[.int .i64 0,.int .i64 0,.int .i64 0,.int .i64 0,.slice none 0 0,.int .i64 0]) (t:=33) ?hr ?_;(case hd=>rfl);(case hg=>rfl);(case hr=>first|(go_simp;done)|(go_simp;rfl));intro gb470 hg w20 hbox hb;have n0_:=aK_ (Kd.R_below (aR_ HO_4.out) hb);have n1_:=aK_ (Kd.R_below (aR_ HO_7.out) hb);have n2_:=aK_ (zAN (g:=gb461) (o:=.cells #[.string a0_0,.slice A0_1 l0_1.length c0_1,.int .i64 a0_2,.slice (some ad469) l0_3.length c0_3] 25 (0,0)) (aB_ BK461.out) hb);have n3_:=aK_ (zAH (aI_ HB.out GE461.out) hb);have n4_:=aK_ (hbox);have n5_:=aK_ ((by rw [hg];exact (zAE (aI_ HB.out GE461.out)):w.heap.size≤gb470));have n6_:=aK_ ((by rw [hg];exact (zAE (aI_ HB.out GE461.out)):w.heap.size≤gb470));have n7_:=aK_ ((by rw [hg];exact Nat.ne_of_lt (blk_lt (g:=gb461) (o:=.cells #[.string a0_0,.slice A0_1 l0_1.length c0_1,.int .i64 a0_2,.slice (some ad469) l0_3.length c0_3] 25 (0,0)) (aB_ BK461.out)):gb461≠gb470));have n8_:=aK_ ((by rw [hg];exact Nat.ne_of_gt (blk_lt (g:=gb461) (o:=.cells #[.string a0_0,.slice A0_1 l0_1.length c0_1,.int .i64 a0_2,.slice (some ad469) l0_3.length c0_3] 25 (0,0)) (aB_ BK461.out)):gb470≠gb461));clear HO_4;clear HO_7;clear BK461;clear HB;have HO_4:=n0_;have HO_7:=n1_;have BK461:=n2_;have HB:=n3_;have BK470:=n4_;have GW470:=n5_;have GE470:=n6_;have NB461_470:=n7_;have NB470_461:=n8_;clear n0_ n1_ n2_ n3_ n4_ n5_ n6_ n7_ n8_;clear hb hbox hg;have hnb21:=NB470_461.out;have hnc21:=NB461_470.out;have hcz22_0:w20.cell? ⟨gb470,0,none⟩=some (.int .i64 0):=(zAB BK470.out 0).trans rfl;have hcz22_1:w20.cell? ⟨gb470,1,none⟩=some (.int .i64 0):=(zAB BK470.out 1).trans rfl;have hcz22_2:w20.cell? ⟨gb470,2,none⟩=some (.int .i64 0):=(zAB BK470.out 2).trans rfl;have hcz22_3:w20.cell? ⟨gb470,3,none⟩=some (.int .i64 0):=(zAB BK470.out 3).trans rfl;have hcz22_4:w20.cell? ⟨gb470,4,none⟩=some (.slice none 0 0):=(zAB BK470.out 4).trans rfl;have hcz22_5:w20.cell? ⟨gb470,5,none⟩=some (.int .i64 0):=(zAB BK470.out 5).trans rfl;have hfz22_0:=zAA BK470.out 0;have hfz22_1:=zAA BK470.out 1;have hfz22_2:=zAA BK470.out 2;have hfz22_3:=zAA BK470.out 3;have hfz22_4:=zAA BK470.out 4;have hfz22_5:=zAA BK470.out 5)|((with_reducible refine gate_store (t:=33) (p:=9) rfl ?_);refine store_event (t:=33) (p:=9) (v:=?vo_w23) (w1:=((((((w20.setCell ⟨gb470,0,none⟩ (.int .i64 ((zAC l0_3 x24_1).f0))).setCell ⟨gb470,1,none⟩ (.int .i64 ((zAC l0_3 x24_1).f1))).setCell ⟨gb470,2,none⟩ (.int .i64 ((zAC l0_3 x24_1).f2))).setCell ⟨gb470,3,none⟩ (.int .i64 ((zAC l0_3 x24_1).f3))).setCell ⟨gb470,4,none⟩ (.slice A469_4 ((zAC l0_3 x24_1).f4).length c469_4)).setCell ⟨gb470,5,none⟩ (.int .i64 ((zAC l0_3 x24_1).f5)))) ?hg ?ho ?hn ?hr ?_;(case ho=>rfl);(case hg=>rfl);(case hn=>rfl);(case hr=>first|(go_simp;done)|(go_simp;rfl));intro w23 hw;have n0_:zAO (Kd.R (Kd.int .i64) 3 w23 w.heap.size (fun _=>True) (.slice Ao9 t462.length co9) t462):=⟨(by rw [hw];exact (by refine aR_ ?_;exact Kd.R_mono (Kd.R_far (p:=⟨gb470,5,none⟩) (Kd.R_far (p:=⟨gb470,4,none⟩) (Kd.R_far (p:=⟨gb470,3,none⟩) (Kd.R_far (p:=⟨gb470,2,none⟩) (Kd.R_far (p:=⟨gb470,1,none⟩) (Kd.R_far (p:=⟨gb470,0,none⟩) (Kd.R_types HO_4.out BK470.out (by decide)) (fun _ hk=>hk.2) (.int .i64 ((zAC l0_3 x24_1).f0))) (fun _ hk=>hk.2) (.int .i64 ((zAC l0_3 x24_1).f1))) (fun _ hk=>hk.2) (.int .i64 ((zAC l0_3 x24_1).f2))) (fun _ hk=>hk.2) (.int .i64 ((zAC l0_3 x24_1).f3))) (fun _ hk=>hk.2) (.slice A469_4 ((zAC l0_3 x24_1).f4).length c469_4)) (fun _ hk=>hk.2) (.int .i64 ((zAC l0_3 x24_1).f5))) (fun _ hk=>trivial)))⟩;have n1_:zAO (Kd.R Kd.bool 4 w23 w.heap.size (fun _=>True) v467 x7_1):=⟨(by rw [hw];exact (by refine aR_ ?_;exact Kd.R_mono (Kd.R_far (p:=⟨gb470,5,none⟩) (Kd.R_far (p:=⟨gb470,4,none⟩) (Kd.R_far (p:=⟨gb470,3,none⟩) (Kd.R_far (p:=⟨gb470,2,none⟩) (Kd.R_far (p:=⟨gb470,1,none⟩) (Kd.R_far (p:=⟨gb470,0,none⟩) (Kd.R_types HO_7.out BK470.out (by decide)) (fun _ hk=>hk.2) (.int .i64 ((zAC l0_3 x24_1).f0))) (fun _ hk=>hk.2) (.int .i64 ((zAC l0_3 x24_1).f1))) (fun _ hk=>hk.2) (.int .i64 ((zAC l0_3 x24_1).f2))) (fun _ hk=>hk.2) (.int .i64 ((zAC l0_3 x24_1).f3))) (fun _ hk=>hk.2) (.slice A469_4 ((zAC l0_3 x24_1).f4).length c469_4)) (fun _ hk=>hk.2) (.int .i64 ((zAC l0_3 x24_1).f5))) (fun _ hk=>trivial)))⟩;have n2_:zAO (w23.heap[gb461]?=some (.cells #[.string a0_0,.slice A0_1 l0_1.length c0_1,.int .i64 a0_2,.slice (some ad469) l0_3.length c0_3] 25 (0,0))):=⟨(by rw [hw];exact (by refine aB_ ?_;refine blk_far ?_ NB461_470.out _;refine aB_ ?_;refine blk_far ?_ NB461_470.out _;refine aB_ ?_;refine blk_far ?_ NB461_470.out _;refine aB_ ?_;refine blk_far ?_ NB461_470.out _;refine aB_ ?_;refine blk_far ?_ NB461_470.out _;refine aB_ ?_;refine blk_far ?_ NB461_470.out _;refine aB_ ?_;exact BK461.out))⟩;have n3_:zAO (w23.heap[gb470]?=some (.cells #[.int .i64 ((zAC l0_3 x24_1).f0),.int .i64 ((zAC l0_3 x24_1).f1),.int .i64 ((zAC l0_3 x24_1).f2),.int .i64 ((zAC l0_3 x24_1).f3),.slice A469_4 ((zAC l0_3 x24_1).f4).length c469_4,.int .i64 ((zAC l0_3 x24_1).f5)] 33 (0,0))):=⟨(by rw [hw];exact (by refine aB_ ?_;refine blk_put (cs:=#[.int .i64 ((zAC l0_3 x24_1).f0),.int .i64 ((zAC l0_3 x24_1).f1),.int .i64 ((zAC l0_3 x24_1).f2),.int .i64 ((zAC l0_3 x24_1).f3),.slice A469_4 ((zAC l0_3 x24_1).f4).length c469_4,.int .i64 0]) ?_ 5 _ rfl;refine aB_ ?_;refine blk_put (cs:=#[.int .i64 ((zAC l0_3 x24_1).f0),.int .i64 ((zAC l0_3 x24_1).f1),.int .i64 ((zAC l0_3 x24_1).f2),.int .i64 ((zAC l0_3 x24_1).f3),.slice none 0 0,.int .i64 0]) ?_ 4 _ rfl;refine aB_ ?_;refine blk_put (cs:=#[.int .i64 ((zAC l0_3 x24_1).f0),.int .i64 ((zAC l0_3 x24_1).f1),.int .i64 ((zAC l0_3 x24_1).f2),.int .i64 0,.slice none 0 0,.int .i64 0]) ?_ 3 _ rfl;refine aB_ ?_;refine blk_put (cs:=#[.int .i64 ((zAC l0_3 x24_1).f0),.int .i64 ((zAC l0_3 x24_1).f1),.int .i64 0,.int .i64 0,.slice none 0 0,.int .i64 0]) ?_ 2 _ rfl;refine aB_ ?_;refine blk_put (cs:=#[.int .i64 ((zAC l0_3 x24_1).f0),.int .i64 0,.int .i64 0,.int .i64 0,.slice none 0 0,.int .i64 0]) ?_ 1 _ rfl;refine aB_ ?_;refine blk_put (cs:=#[.int .i64 0,.int .i64 0,.int .i64 0,.int .i64 0,.slice none 0 0,.int .i64 0]) ?_ 0 _ rfl;refine aB_ ?_;exact BK470.out))⟩;have n4_:zAO (Below w.heap.size w w23):=⟨(by rw [hw];exact (aJ_ HB.out GE461.out GE470.out))⟩;clear hw;clear HO_4;clear HO_7;clear BK461;clear BK470;clear HB;have HO_4:=n0_;have HO_7:=n1_;have BK461:=n2_;have BK470:=n3_;have HB:=n4_;clear n0_ n1_ n2_ n3_ n4_;have hcz24_0:w23.cell? ⟨gb470,0,none⟩=some (.int .i64 ((zAC l0_3 x24_1).f0)):=(zAB BK470.out 0).trans rfl;have hcz24_1:w23.cell? ⟨gb470,1,none⟩=some (.int .i64 ((zAC l0_3 x24_1).f1)):=(zAB BK470.out 1).trans rfl;have hcz24_2:w23.cell? ⟨gb470,2,none⟩=some (.int .i64 ((zAC l0_3 x24_1).f2)):=(zAB BK470.out 2).trans rfl;have hcz24_3:w23.cell? ⟨gb470,3,none⟩=some (.int .i64 ((zAC l0_3 x24_1).f3)):=(zAB BK470.out 3).trans rfl;have hcz24_4:w23.cell? ⟨gb470,4,none⟩=some (.slice A469_4 ((zAC l0_3 x24_1).f4).length c469_4):=(zAB BK470.out 4).trans rfl;have hcz24_5:w23.cell? ⟨gb470,5,none⟩=some (.int .i64 ((zAC l0_3 x24_1).f5)):=(zAB BK470.out 5).trans rfl;have hfz24_0:=zAA BK470.out 0;have hfz24_1:=zAA BK470.out 1;have hfz24_2:=zAA BK470.out 2;have hfz24_3:=zAA BK470.out 3;have hfz24_4:=zAA BK470.out 4;have hfz24_5:=zAA BK470.out 5;have p471:0≤(x24_1:Int):=aD_;have q471:x24_1<(t462.length:Int):=aD_;obtain ⟨ad471,e471,hx471_0⟩:=Kd.at_int (Kd.R_reads' HO_4.out).2.2 x24_1 p471 q471;cases e471;replace p471:=eq_true p471;replace q471:=eq_true q471;have p19:0≤(x24_1:Int):=aD_;have q19:(x24_1:Int)<((x7_1.length:Int):Int):=aD_;obtain ⟨go19,co19,eo19,gb19,gl19,cl19,HG19⟩:=Kd.R_form HO_7.out (by omega);(first|cases eo19|(injection eo19 with ea_ en_ ec_;(first|subst ea_|(injection ea_ with ea_;subst ea_));subst ec_;clear en_));have GB19:=aK_ gb19;have GG19:=aK_ HG19;clear gb19 gl19 HG19;obtain ⟨hx19_0,hf19_0⟩:=Kd.R_celln false HO_7.out (x24_1:Int) p19 q19;replace p19:=eq_true p19;replace q19:=eq_true q19;obtain ⟨hy25_,hz25_⟩:=Kd.R_celln false HO_7.out (x24_1:Int) aD_ aD_;have HP25:=Kd.R_putg HO_7.out (x24_1:Int) (decide (x24_1<(rd t462 x24_1))))|((with_reducible refine gate_store (t:=4) (p:=46) rfl ?_);refine store_event (t:=4) (p:=46) (v:=?vo_w26) (w1:=(w23.setCell ⟨go19,(x24_1:Int).toNat,none⟩ (.bool (decide (x24_1<(rd t462 x24_1)))))) ?hg ?ho ?hn ?hr ?_;(case ho=>rfl);(case hg=>rfl);(case hn=>rfl);(case hr=>first|(go_simp;done)|(go_simp;rfl));intro w26 hw;have hg:w23.grownBy w26 (some go19):=(by rw [hw];exact HP25.2);have hp_:Kd.R Kd.bool 4 w26 w.heap.size (fun _=>True) (.slice (some ⟨go19,0,none⟩) x7_1.length co19) y472:=(by rw [hw,Ny472.out];exact HP25.1);clear HP25;have n0_:=aK_ (Kd.R_over' (v:=(.slice (some ⟨go19,0,none⟩) x7_1.length co19)) (aR_ HO_4.out) (Kd.R_typed HO_7.out) (by decide) hg);have n1_:=aK_ (hp_);have n2_:=aK_ (blk_grown (g:=gb461) (o:=.cells #[.string a0_0,.slice A0_1 l0_1.length c0_1,.int .i64 a0_2,.slice (some ad469) l0_3.length c0_3] 25 (0,0)) (aB_ BK461.out) hg (Kd.R_ne HO_7.out BK461.out (by decide)));have n3_:=aK_ (blk_grown (g:=gb470) (o:=.cells #[.int .i64 ((zAC l0_3 x24_1).f0),.int .i64 ((zAC l0_3 x24_1).f1),.int .i64 ((zAC l0_3 x24_1).f2),.int .i64 ((zAC l0_3 x24_1).f3),.slice A469_4 ((zAC l0_3 x24_1).f4).length c469_4,.int .i64 ((zAC l0_3 x24_1).f5)] 33 (0,0)) (aB_ BK470.out) hg (Kd.R_ne HO_7.out BK470.out (by decide)));have n4_:=aK_ ((by rw [hw];exact below_set (HB.out) GB19.out:Below w.heap.size w w26));clear HO_4;clear HO_7;clear BK461;clear BK470;clear HB;have HO_4:=n0_;have HO_7:=n1_;have BK461:=n2_;have BK470:=n3_;have HB:=n4_;clear n0_ n1_ n2_ n3_ n4_;clear hg hw hp_))
  go_roundg k1
  case measure=>have:=HK1.out;omega
  case rel=>exact ⟨(x24_1),(y472),(wrap64 (x24_1+1)),aS2_,aS2_,H',⟨by have:=HK1.out;omega⟩,⟨aR_ HO_4.out⟩,⟨aR_ HO_7.out⟩,⟨aB_ BK461.out⟩,⟨aJ_ HB.out GE461.out GE470.out⟩⟩
 rw [if_neg c16] at H
 have c16b0:(((zAC l0_3 x24_1).f0) == 3)=false:=beq_eq_false_iff_ne.mpr c16
 have c16b1:(((zAC l0_3 x24_1).f0) != 3)=true:=bne_iff_ne.mpr c16
 by_cases c27:((zAC l0_3 x24_1).f0)=4
 rotate_left
 ·rw [if_neg c27] at H
  have c27b0:(((zAC l0_3 x24_1).f0) == 4)=false:=beq_eq_false_iff_ne.mpr c27
  have c27b1:(((zAC l0_3 x24_1).f0) != 4)=true:=bne_iff_ne.mpr c27
  have c38:=yes_ H
  rw [if_pos c38] at H
  have c38b0:decide (x24_1<(t462.length:Int))=true:=decide_eq_true c38
  (try (have c38z0:=c38b0;simp only [hl469_4] at c38z0))
  clear c38
  have c39:=yes_ H
  rw [if_pos c39] at H
  have c39b0:decide (x24_1<(x7_1.length:Int))=true:=decide_eq_true c39
  clear c39
  obtain ⟨y476,hy476⟩:∃ y_:List Bool,y_=(x7_1.set (x24_1:Int).toNat (decide (x6_1<(rd t462 x24_1)))):=⟨_,rfl⟩
  replace H:(zAV.l0 k1 t462 x6_1 y476 l0_3 (l0_3.length:Int) (wrap64 (x24_1+1)))=some (r1,r2):=by first|(rw [hy476];with_reducible exact H)|(have H2_:=(Option.bind_some _ _).symm.trans H;rw [hy476];with_reducible exact H2_)|(have H2_:=(Option.bind_some _ _).symm.trans H;with_reducible exact H2_)|with_reducible exact H|(rw [hy476];exact H)|exact H
  have Ny476:=aK_ hy476
  clear hy476
  have H':=aK_ H
  clear H
  have p469:0≤(x24_1:Int):=aD_
  have q469:x24_1<(l0_3.length:Int):=aD_
  obtain ⟨ad469,A469_4,c469_4,e469,hx469_0,hx469_1,hx469_2,hx469_3,hx469_4,hx469_5,hl469_4,hi469_4⟩:=at_T33 HR0_3.out x24_1 p469 q469
  cases e469
  replace hx469_0:=(HB.out.cell (World.block_lt_of_cell? w _ hx469_0)).trans hx469_0
  replace hx469_1:=(HB.out.cell (World.block_lt_of_cell? w _ hx469_1)).trans hx469_1
  replace hx469_2:=(HB.out.cell (World.block_lt_of_cell? w _ hx469_2)).trans hx469_2
  replace hx469_3:=(HB.out.cell (World.block_lt_of_cell? w _ hx469_3)).trans hx469_3
  replace hx469_4:=(HB.out.cell (World.block_lt_of_cell? w _ hx469_4)).trans hx469_4
  replace hx469_5:=(HB.out.cell (World.block_lt_of_cell? w _ hx469_5)).trans hx469_5
  have HR469_4:=aK_ hi469_4
  have HC469_4:=aK_ hl469_4
  clear hi469_4 hl469_4
  replace p469:=eq_true p469
  replace q469:=eq_true q469
  go_wp2_with (first|((with_reducible refine zAQ (N:=9) rfl ?_);refine zAS ?hg (N:=9) ?hd (cs:=#[.int .i64 0,.int .i64 0,.int .i64 0,.int .i64 0,.slice none 0 0,.int .i64 0]) (t:=33) ?hr ?_;(case hd=>rfl);(case hg=>rfl);(case hr=>first|(go_simp;done)|(go_simp;rfl));intro gb470 hg w41 hbox hb;have n0_:=aK_ (Kd.R_below (aR_ HO_4.out) hb);have n1_:=aK_ (Kd.R_below (aR_ HO_7.out) hb);have n2_:=aK_ (zAN (g:=gb461) (o:=.cells #[.string a0_0,.slice A0_1 l0_1.length c0_1,.int .i64 a0_2,.slice (some ad469) l0_3.length c0_3] 25 (0,0)) (aB_ BK461.out) hb);have n3_:=aK_ (zAH (aI_ HB.out GE461.out) hb);have n4_:=aK_ (hbox);have n5_:=aK_ ((by rw [hg];exact (zAE (aI_ HB.out GE461.out)):w.heap.size≤gb470));have n6_:=aK_ ((by rw [hg];exact (zAE (aI_ HB.out GE461.out)):w.heap.size≤gb470));have n7_:=aK_ ((by rw [hg];exact Nat.ne_of_lt (blk_lt (g:=gb461) (o:=.cells #[.string a0_0,.slice A0_1 l0_1.length c0_1,.int .i64 a0_2,.slice (some ad469) l0_3.length c0_3] 25 (0,0)) (aB_ BK461.out)):gb461≠gb470));have n8_:=aK_ ((by rw [hg];exact Nat.ne_of_gt (blk_lt (g:=gb461) (o:=.cells #[.string a0_0,.slice A0_1 l0_1.length c0_1,.int .i64 a0_2,.slice (some ad469) l0_3.length c0_3] 25 (0,0)) (aB_ BK461.out)):gb470≠gb461));clear HO_4;clear HO_7;clear BK461;clear HB;have HO_4:=n0_;have HO_7:=n1_;have BK461:=n2_;have HB:=n3_;have BK470:=n4_;have GW470:=n5_;have GE470:=n6_;have NB461_470:=n7_;have NB470_461:=n8_;clear n0_ n1_ n2_ n3_ n4_ n5_ n6_ n7_ n8_;clear hb hbox hg;have hnb42:=NB470_461.out;have hnc42:=NB461_470.out;have hcz43_0:w41.cell? ⟨gb470,0,none⟩=some (.int .i64 0):=(zAB BK470.out 0).trans rfl;have hcz43_1:w41.cell? ⟨gb470,1,none⟩=some (.int .i64 0):=(zAB BK470.out 1).trans rfl;have hcz43_2:w41.cell? ⟨gb470,2,none⟩=some (.int .i64 0):=(zAB BK470.out 2).trans rfl;have hcz43_3:w41.cell? ⟨gb470,3,none⟩=some (.int .i64 0):=(zAB BK470.out 3).trans rfl;have hcz43_4:w41.cell? ⟨gb470,4,none⟩=some (.slice none 0 0):=(zAB BK470.out 4).trans rfl;have hcz43_5:w41.cell? ⟨gb470,5,none⟩=some (.int .i64 0):=(zAB BK470.out 5).trans rfl;have hfz43_0:=zAA BK470.out 0;have hfz43_1:=zAA BK470.out 1;have hfz43_2:=zAA BK470.out 2;have hfz43_3:=zAA BK470.out 3;have hfz43_4:=zAA BK470.out 4;have hfz43_5:=zAA BK470.out 5)|((with_reducible refine gate_store (t:=33) (p:=9) rfl ?_);refine store_event (t:=33) (p:=9) (v:=?vo_w44) (w1:=((((((w41.setCell ⟨gb470,0,none⟩ (.int .i64 ((zAC l0_3 x24_1).f0))).setCell ⟨gb470,1,none⟩ (.int .i64 ((zAC l0_3 x24_1).f1))).setCell ⟨gb470,2,none⟩ (.int .i64 ((zAC l0_3 x24_1).f2))).setCell ⟨gb470,3,none⟩ (.int .i64 ((zAC l0_3 x24_1).f3))).setCell ⟨gb470,4,none⟩ (.slice A469_4 ((zAC l0_3 x24_1).f4).length c469_4)).setCell ⟨gb470,5,none⟩ (.int .i64 ((zAC l0_3 x24_1).f5)))) ?hg ?ho ?hn ?hr ?_;(case ho=>rfl);(case hg=>rfl);(case hn=>rfl);(case hr=>first|(go_simp;done)|(go_simp;rfl));intro w44 hw;have n0_:zAO (Kd.R (Kd.int .i64) 3 w44 w.heap.size (fun _=>True) (.slice Ao9 t462.length co9) t462):=⟨(by rw [hw];exact (by refine aR_ ?_;exact Kd.R_mono (Kd.R_far (p:=⟨gb470,5,none⟩) (Kd.R_far (p:=⟨gb470,4,none⟩) (Kd.R_far (p:=⟨gb470,3,none⟩) (Kd.R_far (p:=⟨gb470,2,none⟩) (Kd.R_far (p:=⟨gb470,1,none⟩) (Kd.R_far (p:=⟨gb470,0,none⟩) (Kd.R_types HO_4.out BK470.out (by decide)) (fun _ hk=>hk.2) (.int .i64 ((zAC l0_3 x24_1).f0))) (fun _ hk=>hk.2) (.int .i64 ((zAC l0_3 x24_1).f1))) (fun _ hk=>hk.2) (.int .i64 ((zAC l0_3 x24_1).f2))) (fun _ hk=>hk.2) (.int .i64 ((zAC l0_3 x24_1).f3))) (fun _ hk=>hk.2) (.slice A469_4 ((zAC l0_3 x24_1).f4).length c469_4)) (fun _ hk=>hk.2) (.int .i64 ((zAC l0_3 x24_1).f5))) (fun _ hk=>trivial)))⟩;have n1_:zAO (Kd.R Kd.bool 4 w44 w.heap.size (fun _=>True) v467 x7_1):=⟨(by rw [hw];exact (by refine aR_ ?_;exact Kd.R_mono (Kd.R_far (p:=⟨gb470,5,none⟩) (Kd.R_far (p:=⟨gb470,4,none⟩) (Kd.R_far (p:=⟨gb470,3,none⟩) (Kd.R_far (p:=⟨gb470,2,none⟩) (Kd.R_far (p:=⟨gb470,1,none⟩) (Kd.R_far (p:=⟨gb470,0,none⟩) (Kd.R_types HO_7.out BK470.out (by decide)) (fun _ hk=>hk.2) (.int .i64 ((zAC l0_3 x24_1).f0))) (fun _ hk=>hk.2) (.int .i64 ((zAC l0_3 x24_1).f1))) (fun _ hk=>hk.2) (.int .i64 ((zAC l0_3 x24_1).f2))) (fun _ hk=>hk.2) (.int .i64 ((zAC l0_3 x24_1).f3))) (fun _ hk=>hk.2) (.slice A469_4 ((zAC l0_3 x24_1).f4).length c469_4)) (fun _ hk=>hk.2) (.int .i64 ((zAC l0_3 x24_1).f5))) (fun _ hk=>trivial)))⟩;have n2_:zAO (w44.heap[gb461]?=some (.cells #[.string a0_0,.slice A0_1 l0_1.length c0_1,.int .i64 a0_2,.slice (some ad469) l0_3.length c0_3] 25 (0,0))):=⟨(by rw [hw];exact (by refine aB_ ?_;refine blk_far ?_ NB461_470.out _;refine aB_ ?_;refine blk_far ?_ NB461_470.out _;refine aB_ ?_;refine blk_far ?_ NB461_470.out _;refine aB_ ?_;refine blk_far ?_ NB461_470.out _;refine aB_ ?_;refine blk_far ?_ NB461_470.out _;refine aB_ ?_;refine blk_far ?_ NB461_470.out _;refine aB_ ?_;exact BK461.out))⟩;have n3_:zAO (w44.heap[gb470]?=some (.cells #[.int .i64 ((zAC l0_3 x24_1).f0),.int .i64 ((zAC l0_3 x24_1).f1),.int .i64 ((zAC l0_3 x24_1).f2),.int .i64 ((zAC l0_3 x24_1).f3),.slice A469_4 ((zAC l0_3 x24_1).f4).length c469_4,.int .i64 ((zAC l0_3 x24_1).f5)] 33 (0,0))):=⟨(by rw [hw];exact (by refine aB_ ?_;refine blk_put (cs:=#[.int .i64 ((zAC l0_3 x24_1).f0),.int .i64 ((zAC l0_3 x24_1).f1),.int .i64 ((zAC l0_3 x24_1).f2),.int .i64 ((zAC l0_3 x24_1).f3),.slice A469_4 ((zAC l0_3 x24_1).f4).length c469_4,.int .i64 0]) ?_ 5 _ rfl;refine aB_ ?_;refine blk_put (cs:=#[.int .i64 ((zAC l0_3 x24_1).f0),.int .i64 ((zAC l0_3 x24_1).f1),.int .i64 ((zAC l0_3 x24_1).f2),.int .i64 ((zAC l0_3 x24_1).f3),.slice none 0 0,.int .i64 0]) ?_ 4 _ rfl;refine aB_ ?_;refine blk_put (cs:=#[.int .i64 ((zAC l0_3 x24_1).f0),.int .i64 ((zAC l0_3 x24_1).f1),.int .i64 ((zAC l0_3 x24_1).f2),.int .i64 0,.slice none 0 0,.int .i64 0]) ?_ 3 _ rfl;refine aB_ ?_;refine blk_put (cs:=#[.int .i64 ((zAC l0_3 x24_1).f0),.int .i64 ((zAC l0_3 x24_1).f1),.int .i64 0,.int .i64 0,.slice none 0 0,.int .i64 0]) ?_ 2 _ rfl;refine aB_ ?_;refine blk_put (cs:=#[.int .i64 ((zAC l0_3 x24_1).f0),.int .i64 0,.int .i64 0,.int .i64 0,.slice none 0 0,.int .i64 0]) ?_ 1 _ rfl;refine aB_ ?_;refine blk_put (cs:=#[.int .i64 0,.int .i64 0,.int .i64 0,.int .i64 0,.slice none 0 0,.int .i64 0]) ?_ 0 _ rfl;refine aB_ ?_;exact BK470.out))⟩;have n4_:zAO (Below w.heap.size w w44):=⟨(by rw [hw];exact (aJ_ HB.out GE461.out GE470.out))⟩;clear hw;clear HO_4;clear HO_7;clear BK461;clear BK470;clear HB;have HO_4:=n0_;have HO_7:=n1_;have BK461:=n2_;have BK470:=n3_;have HB:=n4_;clear n0_ n1_ n2_ n3_ n4_;have hcz45_0:w44.cell? ⟨gb470,0,none⟩=some (.int .i64 ((zAC l0_3 x24_1).f0)):=(zAB BK470.out 0).trans rfl;have hcz45_1:w44.cell? ⟨gb470,1,none⟩=some (.int .i64 ((zAC l0_3 x24_1).f1)):=(zAB BK470.out 1).trans rfl;have hcz45_2:w44.cell? ⟨gb470,2,none⟩=some (.int .i64 ((zAC l0_3 x24_1).f2)):=(zAB BK470.out 2).trans rfl;have hcz45_3:w44.cell? ⟨gb470,3,none⟩=some (.int .i64 ((zAC l0_3 x24_1).f3)):=(zAB BK470.out 3).trans rfl;have hcz45_4:w44.cell? ⟨gb470,4,none⟩=some (.slice A469_4 ((zAC l0_3 x24_1).f4).length c469_4):=(zAB BK470.out 4).trans rfl;have hcz45_5:w44.cell? ⟨gb470,5,none⟩=some (.int .i64 ((zAC l0_3 x24_1).f5)):=(zAB BK470.out 5).trans rfl;have hfz45_0:=zAA BK470.out 0;have hfz45_1:=zAA BK470.out 1;have hfz45_2:=zAA BK470.out 2;have hfz45_3:=zAA BK470.out 3;have hfz45_4:=zAA BK470.out 4;have hfz45_5:=zAA BK470.out 5;have p475:0≤(x24_1:Int):=aD_;have q475:x24_1<(t462.length:Int):=aD_;obtain ⟨ad475,e475,hx475_0⟩:=Kd.at_int (Kd.R_reads' HO_4.out).2.2 x24_1 p475 q475;cases e475;replace p475:=eq_true p475;replace q475:=eq_true q475;have p40:0≤(x24_1:Int):=aD_;have q40:(x24_1:Int)<((x7_1.length:Int):Int):=aD_;obtain ⟨go40,co40,eo40,gb40,gl40,cl40,HG40⟩:=Kd.R_form HO_7.out (by omega);(first|cases eo40|(injection eo40 with ea_ en_ ec_;(first|subst ea_|(injection ea_ with ea_;subst ea_));subst ec_;clear en_));have GB40:=aK_ gb40;have GG40:=aK_ HG40;clear gb40 gl40 HG40;obtain ⟨hx40_0,hf40_0⟩:=Kd.R_celln false HO_7.out (x24_1:Int) p40 q40;replace p40:=eq_true p40;replace q40:=eq_true q40;obtain ⟨hy46_,hz46_⟩:=Kd.R_celln false HO_7.out (x24_1:Int) aD_ aD_;have HP46:=Kd.R_putg HO_7.out (x24_1:Int) (decide (x6_1<(rd t462 x24_1))))|((with_reducible refine gate_store (t:=4) (p:=46) rfl ?_);refine store_event (t:=4) (p:=46) (v:=?vo_w47) (w1:=(w44.setCell ⟨go40,(x24_1:Int).toNat,none⟩ (.bool (decide (x6_1<(rd t462 x24_1)))))) ?hg ?ho ?hn ?hr ?_;(case ho=>rfl);(case hg=>rfl);(case hn=>rfl);(case hr=>first|(go_simp;done)|(go_simp;rfl));intro w47 hw;have hg:w44.grownBy w47 (some go40):=(by rw [hw];exact HP46.2);have hp_:Kd.R Kd.bool 4 w47 w.heap.size (fun _=>True) (.slice (some ⟨go40,0,none⟩) x7_1.length co40) y476:=(by rw [hw,Ny476.out];exact HP46.1);clear HP46;have n0_:=aK_ (Kd.R_over' (v:=(.slice (some ⟨go40,0,none⟩) x7_1.length co40)) (aR_ HO_4.out) (Kd.R_typed HO_7.out) (by decide) hg);have n1_:=aK_ (hp_);have n2_:=aK_ (blk_grown (g:=gb461) (o:=.cells #[.string a0_0,.slice A0_1 l0_1.length c0_1,.int .i64 a0_2,.slice (some ad469) l0_3.length c0_3] 25 (0,0)) (aB_ BK461.out) hg (Kd.R_ne HO_7.out BK461.out (by decide)));have n3_:=aK_ (blk_grown (g:=gb470) (o:=.cells #[.int .i64 ((zAC l0_3 x24_1).f0),.int .i64 ((zAC l0_3 x24_1).f1),.int .i64 ((zAC l0_3 x24_1).f2),.int .i64 ((zAC l0_3 x24_1).f3),.slice A469_4 ((zAC l0_3 x24_1).f4).length c469_4,.int .i64 ((zAC l0_3 x24_1).f5)] 33 (0,0)) (aB_ BK470.out) hg (Kd.R_ne HO_7.out BK470.out (by decide)));have n4_:=aK_ ((by rw [hw];exact below_set (HB.out) GB40.out:Below w.heap.size w w47));clear HO_4;clear HO_7;clear BK461;clear BK470;clear HB;have HO_4:=n0_;have HO_7:=n1_;have BK461:=n2_;have BK470:=n3_;have HB:=n4_;clear n0_ n1_ n2_ n3_ n4_;clear hg hw hp_))
  go_roundg k1
  case measure=>have:=HK1.out;omega
  case rel=>exact ⟨(x6_1),(y476),(wrap64 (x24_1+1)),aS2_,aS2_,H',⟨by have:=HK1.out;omega⟩,⟨aR_ HO_4.out⟩,⟨aR_ HO_7.out⟩,⟨aB_ BK461.out⟩,⟨aJ_ HB.out GE461.out GE470.out⟩⟩
 rw [if_pos c27] at H
 have c27b0:(((zAC l0_3 x24_1).f0) == 4)=true:=beq_iff_eq.mpr c27
 have c27b1:(((zAC l0_3 x24_1).f0) != 4)=false:=bne_eq_false_iff_eq.mpr c27
 clear c27
 have c28:=yes_ H
 rw [if_pos c28] at H
 have c28b0:decide (x24_1<(t462.length:Int))=true:=decide_eq_true c28
 (try (have c28z0:=c28b0;simp only [hl469_4] at c28z0))
 clear c28
 have c29:=yes_ H
 rw [if_pos c29] at H
 have c29b0:decide (x24_1<(x7_1.length:Int))=true:=decide_eq_true c29
 clear c29
 obtain ⟨y474,hy474⟩:∃ y_:List Bool,y_=(x7_1.set (x24_1:Int).toNat (decide (x24_1<(rd t462 x24_1)))):=⟨_,rfl⟩
 replace H:(zAV.l0 k1 t462 x24_1 y474 l0_3 (l0_3.length:Int) (wrap64 (x24_1+1)))=some (r1,r2):=by first|(rw [hy474];with_reducible exact H)|(have H2_:=(Option.bind_some _ _).symm.trans H;rw [hy474];with_reducible exact H2_)|(have H2_:=(Option.bind_some _ _).symm.trans H;with_reducible exact H2_)|with_reducible exact H|(rw [hy474];exact H)|exact H
 have Ny474:=aK_ hy474
 clear hy474
 have H':=aK_ H
 clear H
 have p469:0≤(x24_1:Int):=aD_
 have q469:x24_1<(l0_3.length:Int):=aD_
 obtain ⟨ad469,A469_4,c469_4,e469,hx469_0,hx469_1,hx469_2,hx469_3,hx469_4,hx469_5,hl469_4,hi469_4⟩:=at_T33 HR0_3.out x24_1 p469 q469
 cases e469
 replace hx469_0:=(HB.out.cell (World.block_lt_of_cell? w _ hx469_0)).trans hx469_0
 replace hx469_1:=(HB.out.cell (World.block_lt_of_cell? w _ hx469_1)).trans hx469_1
 replace hx469_2:=(HB.out.cell (World.block_lt_of_cell? w _ hx469_2)).trans hx469_2
 replace hx469_3:=(HB.out.cell (World.block_lt_of_cell? w _ hx469_3)).trans hx469_3
 replace hx469_4:=(HB.out.cell (World.block_lt_of_cell? w _ hx469_4)).trans hx469_4
 replace hx469_5:=(HB.out.cell (World.block_lt_of_cell? w _ hx469_5)).trans hx469_5
 have HR469_4:=aK_ hi469_4
 have HC469_4:=aK_ hl469_4
 clear hi469_4 hl469_4
 replace p469:=eq_true p469
 replace q469:=eq_true q469
 go_wp2_with (first|((with_reducible refine zAQ (N:=9) rfl ?_);refine zAS ?hg (N:=9) ?hd (cs:=#[.int .i64 0,.int .i64 0,.int .i64 0,.int .i64 0,.slice none 0 0,.int .i64 0]) (t:=33) ?hr ?_;(case hd=>rfl);(case hg=>rfl);(case hr=>first|(go_simp;done)|(go_simp;rfl));intro gb470 hg w31 hbox hb;have n0_:=aK_ (Kd.R_below (aR_ HO_4.out) hb);have n1_:=aK_ (Kd.R_below (aR_ HO_7.out) hb);have n2_:=aK_ (zAN (g:=gb461) (o:=.cells #[.string a0_0,.slice A0_1 l0_1.length c0_1,.int .i64 a0_2,.slice (some ad469) l0_3.length c0_3] 25 (0,0)) (aB_ BK461.out) hb);have n3_:=aK_ (zAH (aI_ HB.out GE461.out) hb);have n4_:=aK_ (hbox);have n5_:=aK_ ((by rw [hg];exact (zAE (aI_ HB.out GE461.out)):w.heap.size≤gb470));have n6_:=aK_ ((by rw [hg];exact (zAE (aI_ HB.out GE461.out)):w.heap.size≤gb470));have n7_:=aK_ ((by rw [hg];exact Nat.ne_of_lt (blk_lt (g:=gb461) (o:=.cells #[.string a0_0,.slice A0_1 l0_1.length c0_1,.int .i64 a0_2,.slice (some ad469) l0_3.length c0_3] 25 (0,0)) (aB_ BK461.out)):gb461≠gb470));have n8_:=aK_ ((by rw [hg];exact Nat.ne_of_gt (blk_lt (g:=gb461) (o:=.cells #[.string a0_0,.slice A0_1 l0_1.length c0_1,.int .i64 a0_2,.slice (some ad469) l0_3.length c0_3] 25 (0,0)) (aB_ BK461.out)):gb470≠gb461));clear HO_4;clear HO_7;clear BK461;clear HB;have HO_4:=n0_;have HO_7:=n1_;have BK461:=n2_;have HB:=n3_;have BK470:=n4_;have GW470:=n5_;have GE470:=n6_;have NB461_470:=n7_;have NB470_461:=n8_;clear n0_ n1_ n2_ n3_ n4_ n5_ n6_ n7_ n8_;clear hb hbox hg;have hnb32:=NB470_461.out;have hnc32:=NB461_470.out;have hcz33_0:w31.cell? ⟨gb470,0,none⟩=some (.int .i64 0):=(zAB BK470.out 0).trans rfl;have hcz33_1:w31.cell? ⟨gb470,1,none⟩=some (.int .i64 0):=(zAB BK470.out 1).trans rfl;have hcz33_2:w31.cell? ⟨gb470,2,none⟩=some (.int .i64 0):=(zAB BK470.out 2).trans rfl;have hcz33_3:w31.cell? ⟨gb470,3,none⟩=some (.int .i64 0):=(zAB BK470.out 3).trans rfl;have hcz33_4:w31.cell? ⟨gb470,4,none⟩=some (.slice none 0 0):=(zAB BK470.out 4).trans rfl;have hcz33_5:w31.cell? ⟨gb470,5,none⟩=some (.int .i64 0):=(zAB BK470.out 5).trans rfl;have hfz33_0:=zAA BK470.out 0;have hfz33_1:=zAA BK470.out 1;have hfz33_2:=zAA BK470.out 2;have hfz33_3:=zAA BK470.out 3;have hfz33_4:=zAA BK470.out 4;have hfz33_5:=zAA BK470.out 5)|((with_reducible refine gate_store (t:=33) (p:=9) rfl ?_);refine store_event (t:=33) (p:=9) (v:=?vo_w34) (w1:=((((((w31.setCell ⟨gb470,0,none⟩ (.int .i64 ((zAC l0_3 x24_1).f0))).setCell ⟨gb470,1,none⟩ (.int .i64 ((zAC l0_3 x24_1).f1))).setCell ⟨gb470,2,none⟩ (.int .i64 ((zAC l0_3 x24_1).f2))).setCell ⟨gb470,3,none⟩ (.int .i64 ((zAC l0_3 x24_1).f3))).setCell ⟨gb470,4,none⟩ (.slice A469_4 ((zAC l0_3 x24_1).f4).length c469_4)).setCell ⟨gb470,5,none⟩ (.int .i64 ((zAC l0_3 x24_1).f5)))) ?hg ?ho ?hn ?hr ?_;(case ho=>rfl);(case hg=>rfl);(case hn=>rfl);(case hr=>first|(go_simp;done)|(go_simp;rfl));intro w34 hw;have n0_:zAO (Kd.R (Kd.int .i64) 3 w34 w.heap.size (fun _=>True) (.slice Ao9 t462.length co9) t462):=⟨(by rw [hw];exact (by refine aR_ ?_;exact Kd.R_mono (Kd.R_far (p:=⟨gb470,5,none⟩) (Kd.R_far (p:=⟨gb470,4,none⟩) (Kd.R_far (p:=⟨gb470,3,none⟩) (Kd.R_far (p:=⟨gb470,2,none⟩) (Kd.R_far (p:=⟨gb470,1,none⟩) (Kd.R_far (p:=⟨gb470,0,none⟩) (Kd.R_types HO_4.out BK470.out (by decide)) (fun _ hk=>hk.2) (.int .i64 ((zAC l0_3 x24_1).f0))) (fun _ hk=>hk.2) (.int .i64 ((zAC l0_3 x24_1).f1))) (fun _ hk=>hk.2) (.int .i64 ((zAC l0_3 x24_1).f2))) (fun _ hk=>hk.2) (.int .i64 ((zAC l0_3 x24_1).f3))) (fun _ hk=>hk.2) (.slice A469_4 ((zAC l0_3 x24_1).f4).length c469_4)) (fun _ hk=>hk.2) (.int .i64 ((zAC l0_3 x24_1).f5))) (fun _ hk=>trivial)))⟩;have n1_:zAO (Kd.R Kd.bool 4 w34 w.heap.size (fun _=>True) v467 x7_1):=⟨(by rw [hw];exact (by refine aR_ ?_;exact Kd.R_mono (Kd.R_far (p:=⟨gb470,5,none⟩) (Kd.R_far (p:=⟨gb470,4,none⟩) (Kd.R_far (p:=⟨gb470,3,none⟩) (Kd.R_far (p:=⟨gb470,2,none⟩) (Kd.R_far (p:=⟨gb470,1,none⟩) (Kd.R_far (p:=⟨gb470,0,none⟩) (Kd.R_types HO_7.out BK470.out (by decide)) (fun _ hk=>hk.2) (.int .i64 ((zAC l0_3 x24_1).f0))) (fun _ hk=>hk.2) (.int .i64 ((zAC l0_3 x24_1).f1))) (fun _ hk=>hk.2) (.int .i64 ((zAC l0_3 x24_1).f2))) (fun _ hk=>hk.2) (.int .i64 ((zAC l0_3 x24_1).f3))) (fun _ hk=>hk.2) (.slice A469_4 ((zAC l0_3 x24_1).f4).length c469_4)) (fun _ hk=>hk.2) (.int .i64 ((zAC l0_3 x24_1).f5))) (fun _ hk=>trivial)))⟩;have n2_:zAO (w34.heap[gb461]?=some (.cells #[.string a0_0,.slice A0_1 l0_1.length c0_1,.int .i64 a0_2,.slice (some ad469) l0_3.length c0_3] 25 (0,0))):=⟨(by rw [hw];exact (by refine aB_ ?_;refine blk_far ?_ NB461_470.out _;refine aB_ ?_;refine blk_far ?_ NB461_470.out _;refine aB_ ?_;refine blk_far ?_ NB461_470.out _;refine aB_ ?_;refine blk_far ?_ NB461_470.out _;refine aB_ ?_;refine blk_far ?_ NB461_470.out _;refine aB_ ?_;refine blk_far ?_ NB461_470.out _;refine aB_ ?_;exact BK461.out))⟩;have n3_:zAO (w34.heap[gb470]?=some (.cells #[.int .i64 ((zAC l0_3 x24_1).f0),.int .i64 ((zAC l0_3 x24_1).f1),.int .i64 ((zAC l0_3 x24_1).f2),.int .i64 ((zAC l0_3 x24_1).f3),.slice A469_4 ((zAC l0_3 x24_1).f4).length c469_4,.int .i64 ((zAC l0_3 x24_1).f5)] 33 (0,0))):=⟨(by rw [hw];exact (by refine aB_ ?_;refine blk_put (cs:=#[.int .i64 ((zAC l0_3 x24_1).f0),.int .i64 ((zAC l0_3 x24_1).f1),.int .i64 ((zAC l0_3 x24_1).f2),.int .i64 ((zAC l0_3 x24_1).f3),.slice A469_4 ((zAC l0_3 x24_1).f4).length c469_4,.int .i64 0]) ?_ 5 _ rfl;refine aB_ ?_;refine blk_put (cs:=#[.int .i64 ((zAC l0_3 x24_1).f0),.int .i64 ((zAC l0_3 x24_1).f1),.int .i64 ((zAC l0_3 x24_1).f2),.int .i64 ((zAC l0_3 x24_1).f3),.slice none 0 0,.int .i64 0]) ?_ 4 _ rfl;refine aB_ ?_;refine blk_put (cs:=#[.int .i64 ((zAC l0_3 x24_1).f0),.int .i64 ((zAC l0_3 x24_1).f1),.int .i64 ((zAC l0_3 x24_1).f2),.int .i64 0,.slice none 0 0,.int .i64 0]) ?_ 3 _ rfl;refine aB_ ?_;refine blk_put (cs:=#[.int .i64 ((zAC l0_3 x24_1).f0),.int .i64 ((zAC l0_3 x24_1).f1),.int .i64 0,.int .i64 0,.slice none 0 0,.int .i64 0]) ?_ 2 _ rfl;refine aB_ ?_;refine blk_put (cs:=#[.int .i64 ((zAC l0_3 x24_1).f0),.int .i64 0,.int .i64 0,.int .i64 0,.slice none 0 0,.int .i64 0]) ?_ 1 _ rfl;refine aB_ ?_;refine blk_put (cs:=#[.int .i64 0,.int .i64 0,.int .i64 0,.int .i64 0,.slice none 0 0,.int .i64 0]) ?_ 0 _ rfl;refine aB_ ?_;exact BK470.out))⟩;have n4_:zAO (Below w.heap.size w w34):=⟨(by rw [hw];exact (aJ_ HB.out GE461.out GE470.out))⟩;clear hw;clear HO_4;clear HO_7;clear BK461;clear BK470;clear HB;have HO_4:=n0_;have HO_7:=n1_;have BK461:=n2_;have BK470:=n3_;have HB:=n4_;clear n0_ n1_ n2_ n3_ n4_;have hcz35_0:w34.cell? ⟨gb470,0,none⟩=some (.int .i64 ((zAC l0_3 x24_1).f0)):=(zAB BK470.out 0).trans rfl;have hcz35_1:w34.cell? ⟨gb470,1,none⟩=some (.int .i64 ((zAC l0_3 x24_1).f1)):=(zAB BK470.out 1).trans rfl;have hcz35_2:w34.cell? ⟨gb470,2,none⟩=some (.int .i64 ((zAC l0_3 x24_1).f2)):=(zAB BK470.out 2).trans rfl;have hcz35_3:w34.cell? ⟨gb470,3,none⟩=some (.int .i64 ((zAC l0_3 x24_1).f3)):=(zAB BK470.out 3).trans rfl;have hcz35_4:w34.cell? ⟨gb470,4,none⟩=some (.slice A469_4 ((zAC l0_3 x24_1).f4).length c469_4):=(zAB BK470.out 4).trans rfl;have hcz35_5:w34.cell? ⟨gb470,5,none⟩=some (.int .i64 ((zAC l0_3 x24_1).f5)):=(zAB BK470.out 5).trans rfl;have hfz35_0:=zAA BK470.out 0;have hfz35_1:=zAA BK470.out 1;have hfz35_2:=zAA BK470.out 2;have hfz35_3:=zAA BK470.out 3;have hfz35_4:=zAA BK470.out 4;have hfz35_5:=zAA BK470.out 5;have p473:0≤(x24_1:Int):=aD_;have q473:x24_1<(t462.length:Int):=aD_;obtain ⟨ad473,e473,hx473_0⟩:=Kd.at_int (Kd.R_reads' HO_4.out).2.2 x24_1 p473 q473;cases e473;replace p473:=eq_true p473;replace q473:=eq_true q473;have p30:0≤(x24_1:Int):=aD_;have q30:(x24_1:Int)<((x7_1.length:Int):Int):=aD_;obtain ⟨go30,co30,eo30,gb30,gl30,cl30,HG30⟩:=Kd.R_form HO_7.out (by omega);(first|cases eo30|(injection eo30 with ea_ en_ ec_;(first|subst ea_|(injection ea_ with ea_;subst ea_));subst ec_;clear en_));have GB30:=aK_ gb30;have GG30:=aK_ HG30;clear gb30 gl30 HG30;obtain ⟨hx30_0,hf30_0⟩:=Kd.R_celln false HO_7.out (x24_1:Int) p30 q30;replace p30:=eq_true p30;replace q30:=eq_true q30;obtain ⟨hy36_,hz36_⟩:=Kd.R_celln false HO_7.out (x24_1:Int) aD_ aD_;have HP36:=Kd.R_putg HO_7.out (x24_1:Int) (decide (x24_1<(rd t462 x24_1))))|((with_reducible refine gate_store (t:=4) (p:=46) rfl ?_);refine store_event (t:=4) (p:=46) (v:=?vo_w37) (w1:=(w34.setCell ⟨go30,(x24_1:Int).toNat,none⟩ (.bool (decide (x24_1<(rd t462 x24_1)))))) ?hg ?ho ?hn ?hr ?_;(case ho=>rfl);(case hg=>rfl);(case hn=>rfl);(case hr=>first|(go_simp;done)|(go_simp;rfl));intro w37 hw;have hg:w34.grownBy w37 (some go30):=(by rw [hw];exact HP36.2);have hp_:Kd.R Kd.bool 4 w37 w.heap.size (fun _=>True) (.slice (some ⟨go30,0,none⟩) x7_1.length co30) y474:=(by rw [hw,Ny474.out];exact HP36.1);clear HP36;have n0_:=aK_ (Kd.R_over' (v:=(.slice (some ⟨go30,0,none⟩) x7_1.length co30)) (aR_ HO_4.out) (Kd.R_typed HO_7.out) (by decide) hg);have n1_:=aK_ (hp_);have n2_:=aK_ (blk_grown (g:=gb461) (o:=.cells #[.string a0_0,.slice A0_1 l0_1.length c0_1,.int .i64 a0_2,.slice (some ad469) l0_3.length c0_3] 25 (0,0)) (aB_ BK461.out) hg (Kd.R_ne HO_7.out BK461.out (by decide)));have n3_:=aK_ (blk_grown (g:=gb470) (o:=.cells #[.int .i64 ((zAC l0_3 x24_1).f0),.int .i64 ((zAC l0_3 x24_1).f1),.int .i64 ((zAC l0_3 x24_1).f2),.int .i64 ((zAC l0_3 x24_1).f3),.slice A469_4 ((zAC l0_3 x24_1).f4).length c469_4,.int .i64 ((zAC l0_3 x24_1).f5)] 33 (0,0)) (aB_ BK470.out) hg (Kd.R_ne HO_7.out BK470.out (by decide)));have n4_:=aK_ ((by rw [hw];exact below_set (HB.out) GB30.out:Below w.heap.size w w37));clear HO_4;clear HO_7;clear BK461;clear BK470;clear HB;have HO_4:=n0_;have HO_7:=n1_;have BK461:=n2_;have BK470:=n3_;have HB:=n4_;clear n0_ n1_ n2_ n3_ n4_;clear hg hw hp_))
 go_roundg k1
 case measure=>have:=HK1.out;omega
 case rel=>exact ⟨(x24_1),(y474),(wrap64 (x24_1+1)),aS2_,aS2_,H',⟨by have:=HK1.out;omega⟩,⟨aR_ HO_4.out⟩,⟨aR_ HO_7.out⟩,⟨aB_ BK461.out⟩,⟨aJ_ HB.out GE461.out GE470.out⟩⟩
end Go.Proofs.YthbnigjckjkmnaaDoor.S
