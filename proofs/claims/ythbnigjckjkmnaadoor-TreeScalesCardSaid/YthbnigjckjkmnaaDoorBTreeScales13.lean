/- What the proof needs, part 13 of 20. For every input the law TreeScales returns true, and each argument reads behind the call as it read before; the listed variable is tied to the program's text. -/
import Derived.Test.YthbnigjckjkmnaaDoorBTreeScales5
import Derived.Test.YthbnigjckjkmnaaDoorBTreeScales7
import Derived.Test.YthbnigjckjkmnaaDoorBTreeScales10
import Derived.Test.YthbnigjckjkmnaaDoorBTreeScales12
import Derived.Test.YthbnigjckjkmnaaDoorBTreeScales8
import Derived.Test.YthbnigjckjkmnaaDoorBTreeScales9
set_option linter.unusedVariables false
set_option linter.unusedSimpArgs false
namespace Go.Proofs.YthbnigjckjkmnaaDoor.S
open Go.RowKit Go.Proofs.YthbnigjckjkmnaaDoorW.PrintWords Go.Proofs.YthbnigjckjkmnaaDoorW.PrintLast Go.Proofs.YthbnigjckjkmnaaDoorW.PrintMore
attribute [local go_sem] max2_int min2_int max_two min_two max_three min_three max_four min_four
def scan_Word.f (a0:ByteArray):Option (Bool):=if a0.toList=([]:List UInt8) then (some false) else ((scan_run_letter.f a0).bind fun t108=>(if t108=(a0.size:Int) then (if 1+a0.size≤9223372036854775807 then (if ((⟨#[32]⟩:ByteArray) ++ a0).size+1≤9223372036854775807 then ((strings_Contains.f (⟨#[32,112,108,97,110,32,114,111,117,110,100,32,98,121,32,98,108,111,99,107,115,32,109,105,110,32,109,97,120,32,111,118,101,114,32,117,112,116,111,32,103,114,97,100,117,97,116,101,100,32,118,111,108,117,109,101,32,111,102,102,32,105,102,32,102,108,111,111,114,32,99,101,105,108,32,122,101,114,111,32,104,97,108,102,32,101,118,101,110,32]⟩:ByteArray) (((⟨#[32]⟩:ByteArray) ++ a0) ++ (⟨#[32]⟩:ByteArray))).bind fun t109=>(some t109)) else (none)) else (none)) else (some false)))
set_option maxHeartbeats 8000000 in
set_option maxRecDepth 100000 in
theorem scan_Word.calls (a0:ByteArray) (r:Bool) (w:World) (hG:GW w) (h:scan_Word.f a0=some r) :
  Calls Tryd.prog 79 #[.string a0] w fun e w'=>e = .returned (.bool r)∧zAk w w':=by
 have H:(if a0.toList=([]:List UInt8) then (some false) else ((scan_run_letter.f a0).bind fun t108=>(if t108=(a0.size:Int) then (if 1+a0.size≤9223372036854775807 then (if ((⟨#[32]⟩:ByteArray) ++ a0).size+1≤9223372036854775807 then ((strings_Contains.f (⟨#[32,112,108,97,110,32,114,111,117,110,100,32,98,121,32,98,108,111,99,107,115,32,109,105,110,32,109,97,120,32,111,118,101,114,32,117,112,116,111,32,103,114,97,100,117,97,116,101,100,32,118,111,108,117,109,101,32,111,102,102,32,105,102,32,102,108,111,111,114,32,99,101,105,108,32,122,101,114,111,32,104,97,108,102,32,101,118,101,110,32]⟩:ByteArray) (((⟨#[32]⟩:ByteArray) ++ a0) ++ (⟨#[32]⟩:ByteArray))).bind fun t109=>(some t109)) else (none)) else (none)) else (some false))))=some r:=h
 clear h
 by_cases c2:a0.toList=([]:List UInt8)
 ·rw [if_pos c2] at H
  have c2b0:(a0.toList == ([]:List UInt8))=true:=beq_iff_eq.mpr c2
  have c2b1:(a0.toList != ([]:List UInt8))=false:=bne_eq_false_iff_eq.mpr c2
  clear c2
  obtain rfl:=Option.some.inj H
  go_enter Tryd.func79,Tryd.ntmps79
  go_wp2
  go_ret
  exact ⟨by first|rfl|(simp;done)|(simp [*];done),by repeat (first|exact zAk.refl _|apply zAk.step)⟩
 ·rw [if_neg c2] at H
  have c2b0:(a0.toList == ([]:List UInt8))=false:=beq_eq_false_iff_ne.mpr c2
  have c2b1:(a0.toList != ([]:List UInt8))=true:=bne_iff_ne.mpr c2
  replace H:=Option.bind_eq_some_iff.mp H
  obtain ⟨t108,A30,H⟩:=H
  replace H:(if t108=(a0.size:Int) then (if 1+a0.size≤9223372036854775807 then (if ((⟨#[32]⟩:ByteArray) ++ a0).size+1≤9223372036854775807 then ((strings_Contains.f (⟨#[32,112,108,97,110,32,114,111,117,110,100,32,98,121,32,98,108,111,99,107,115,32,109,105,110,32,109,97,120,32,111,118,101,114,32,117,112,116,111,32,103,114,97,100,117,97,116,101,100,32,118,111,108,117,109,101,32,111,102,102,32,105,102,32,102,108,111,111,114,32,99,101,105,108,32,122,101,114,111,32,104,97,108,102,32,101,118,101,110,32]⟩:ByteArray) (((⟨#[32]⟩:ByteArray) ++ a0) ++ (⟨#[32]⟩:ByteArray))).bind fun t109=>(some t109)) else (none)) else (none)) else (some false))=some r:=H
  have A3:=aK_ A30
  clear A30
  by_cases c4:t108=(a0.size:Int)
  ·rw [if_pos c4] at H
   have c4b0:(t108 == (a0.size:Int))=true:=beq_iff_eq.mpr c4
   have c4b1:(t108 != (a0.size:Int))=false:=bne_eq_false_iff_eq.mpr c4
   clear c4
   by_cases c5:1+a0.size≤9223372036854775807
   ·rw [if_pos c5] at H
    have c5b0:=eq_true c5
    have c5b1:decide (1+a0.size≤9223372036854775807)=true:=decide_eq_true c5
    try have c5b2:(9223372036854775807<1+a0.size)=False:=eq_false (Nat.not_lt.2 c5)
    by_cases c6:((⟨#[32]⟩:ByteArray) ++ a0).size+1≤9223372036854775807
    ·rw [if_pos c6] at H
     have c6s:1+a0.size+1≤9223372036854775807:=by
      have h_:=c6
      rw [ByteArray.size_append] at h_
      exact h_
     have c6b0:=eq_true c6
     have c6b1:decide (((⟨#[32]⟩:ByteArray) ++ a0).size+1≤9223372036854775807)=true:=decide_eq_true c6
     try have c6b2:(9223372036854775807<((⟨#[32]⟩:ByteArray) ++ a0).size+1)=False:=eq_false (Nat.not_lt.2 c6)
     replace H:=Option.bind_eq_some_iff.mp H
     obtain ⟨t109,A70,H⟩:=H
     replace H:(some t109)=some r:=H
     have A7:=aK_ A70
     clear A70
     obtain rfl:=Option.some.inj H
     go_enter Tryd.func79,Tryd.ntmps79
     go_wp2_with (first|(go_at_call 77;(with_reducible refine (scan_run_letter.calls a0 t108 _ A3.out).mono ?_);rintro e w' ⟨rfl,⟨nd,rfl⟩⟩)|(go_at_call 87;(refine (strings_Contains.calls (⟨#[32,112,108,97,110,32,114,111,117,110,100,32,98,121,32,98,108,111,99,107,115,32,109,105,110,32,109,97,120,32,111,118,101,114,32,117,112,116,111,32,103,114,97,100,117,97,116,101,100,32,118,111,108,117,109,101,32,111,102,102,32,105,102,32,102,108,111,111,114,32,99,101,105,108,32,122,101,114,111,32,104,97,108,102,32,101,118,101,110,32]⟩:ByteArray) (((⟨#[32]⟩:ByteArray) ++ a0) ++ (⟨#[32]⟩:ByteArray)) t109 _ ?side1 A7.out).mono ?_);(case side1=>(first|(with_reducible exact hG)|((repeat (with_reducible first|exact hG|apply GW.drewN|apply GW.drew|apply GW.alloc));done)|exact GW.below hG (by repeat (first|(with_reducible first|exact HB.out|apply zAB|apply zAA|apply zAC)|exact HB.out))));rintro e w' ⟨rfl,⟨nd,rfl⟩⟩))
     go_ret
     exact ⟨by first|rfl|(simp;done)|(simp [*];done),by repeat (first|exact zAk.refl _|apply zAk.step)⟩
    ·rw [if_neg c6] at H
     exact absurd H (by simp)
   ·rw [if_neg c5] at H
    exact absurd H (by simp)
  ·rw [if_neg c4] at H
   have c4b0:(t108 == (a0.size:Int))=false:=beq_eq_false_iff_ne.mpr c4
   have c4b1:(t108 != (a0.size:Int))=true:=bne_iff_ne.mpr c4
   obtain rfl:=Option.some.inj H
   go_enter Tryd.func79,Tryd.ntmps79
   go_wp2_with (first|(go_at_call 77;(with_reducible refine (scan_run_letter.calls a0 t108 _ A3.out).mono ?_);rintro e w' ⟨rfl,⟨nd,rfl⟩⟩))
   go_ret
   exact ⟨by first|rfl|(simp;done)|(simp [*];done),by repeat (first|exact zAk.refl _|apply zAk.step)⟩
end Go.Proofs.YthbnigjckjkmnaaDoor.S

namespace Go.Proofs.YthbnigjckjkmnaaDoor.S
open Go.RowKit Go.Proofs.YthbnigjckjkmnaaDoorW.PrintWords Go.Proofs.YthbnigjckjkmnaaDoorW.PrintLast Go.Proofs.YthbnigjckjkmnaaDoorW.PrintMore
attribute [local go_sem] max2_int min2_int max_two min_two max_three min_three max_four min_four
def scan_Name.f (a0:ByteArray):Option (Bool):=if a0.toList=([]:List UInt8) then (some false) else (if (a0.size:Int)≤32 then (if 0<(a0.size:Int) then ((scan_letter.f (bt a0 0)).bind fun t110=>(if t110=true then ((scan_run_inner.f a0).bind fun t111=>(if t111=(a0.size:Int) then ((scan_Word.f a0).bind fun t112=>(some (!t112))) else (some false))) else (some false))) else (none)) else (some false))
set_option maxHeartbeats 8000000 in
set_option maxRecDepth 100000 in
theorem scan_Name.calls (a0:ByteArray) (r:Bool) (w:World) (hG:GW w) (h:scan_Name.f a0=some r) :
  Calls Tryd.prog 55 #[.string a0] w fun e w'=>e = .returned (.bool r)∧zAk w w':=by
 have H:(if a0.toList=([]:List UInt8) then (some false) else (if (a0.size:Int)≤32 then (if 0<(a0.size:Int) then ((scan_letter.f (bt a0 0)).bind fun t110=>(if t110=true then ((scan_run_inner.f a0).bind fun t111=>(if t111=(a0.size:Int) then ((scan_Word.f a0).bind fun t112=>(some (!t112))) else (some false))) else (some false))) else (none)) else (some false)))=some r:=h
 clear h
 by_cases c2:a0.toList=([]:List UInt8)
 ·rw [if_pos c2] at H
  have c2b0:(a0.toList == ([]:List UInt8))=true:=beq_iff_eq.mpr c2
  have c2b1:(a0.toList != ([]:List UInt8))=false:=bne_eq_false_iff_eq.mpr c2
  clear c2
  obtain rfl:=Option.some.inj H
  go_enter Tryd.func55,Tryd.ntmps55
  go_wp2
  go_ret
  exact ⟨by first|rfl|(simp;done)|(simp [*];done),by repeat (first|exact zAk.refl _|apply zAk.step)⟩
 ·rw [if_neg c2] at H
  have c2b0:(a0.toList == ([]:List UInt8))=false:=beq_eq_false_iff_ne.mpr c2
  have c2b1:(a0.toList != ([]:List UInt8))=true:=bne_iff_ne.mpr c2
  by_cases c3:(a0.size:Int)≤32
  ·rw [if_pos c3] at H
   have c3b0:decide ((a0.size:Int)≤32)=true:=decide_eq_true c3
   have c3b1:decide (a0.size≤32)=true:=decide_eq_true (by omega)
   clear c3
   by_cases c4:0<(a0.size:Int)
   ·rw [if_pos c4] at H
    have c4b0:decide (0<(a0.size:Int))=true:=decide_eq_true c4
    have c4b1:decide (0<a0.size)=true:=decide_eq_true (by omega)
    clear c4
    replace H:=Option.bind_eq_some_iff.mp H
    obtain ⟨t110,A60,H⟩:=H
    replace H:(if t110=true then ((scan_run_inner.f a0).bind fun t111=>(if t111=(a0.size:Int) then ((scan_Word.f a0).bind fun t112=>(some (!t112))) else (some false))) else (some false))=some r:=H
    have A6:=aK_ A60
    clear A60
    by_cases c7:t110=true
    ·subst c7
     have H1:((scan_run_inner.f a0).bind fun t111=>(if t111=(a0.size:Int) then ((scan_Word.f a0).bind fun t112=>(some (!t112))) else (some false)))=some r:=by rw [if_pos rfl] at H;exact H
     clear H
     have H:=H1
     clear H1
     replace H:=Option.bind_eq_some_iff.mp H
     obtain ⟨t111,A80,H⟩:=H
     replace H:(if t111=(a0.size:Int) then ((scan_Word.f a0).bind fun t112=>(some (!t112))) else (some false))=some r:=H
     have A8:=aK_ A80
     clear A80
     by_cases c9:t111=(a0.size:Int)
     ·rw [if_pos c9] at H
      have c9b0:(t111 == (a0.size:Int))=true:=beq_iff_eq.mpr c9
      have c9b1:(t111 != (a0.size:Int))=false:=bne_eq_false_iff_eq.mpr c9
      clear c9
      replace H:=Option.bind_eq_some_iff.mp H
      obtain ⟨t112,A100,H⟩:=H
      replace H:(some (!t112))=some r:=H
      have A10:=aK_ A100
      clear A100
      obtain rfl:=Option.some.inj H
      have p5:0≤(0:Int):=(by omega)
      have q5:0<a0.size:=(by have:(0:Int)<(a0.size:Int):=of_decide_eq_true (by first|(with_reducible assumption)|assumption);omega)
      have hx5:∀ h:0<a0.size,((a0[0]'h).toNat:Int)=bt a0 0:=bt_at a0 0
      clear p5
      have qi5:(0<(a0.size:Int))=True:=eq_true (of_decide_eq_true (by first|(with_reducible assumption)|assumption))
      replace q5:=eq_true q5
      go_enter Tryd.func55,Tryd.ntmps55
      go_wp2_with (first|(go_at_call 76;(with_reducible refine (scan_letter.calls (bt a0 0) true _ A6.out).mono ?_);rintro e w' ⟨rfl,⟨nd,rfl⟩⟩)|(go_at_call 77;(with_reducible refine (scan_run_inner.calls a0 t111 _ A8.out).mono ?_);rintro e w' ⟨rfl,⟨nd,rfl⟩⟩)|(go_at_call 79;(with_reducible refine (scan_Word.calls a0 t112 _ ?side1 A10.out).mono ?_);(case side1=>(first|(with_reducible exact hG)|((repeat (with_reducible first|exact hG|apply GW.drewN|apply GW.drew|apply GW.alloc));done)|exact GW.below hG (by repeat (first|(with_reducible first|exact HB.out|apply zAB|apply zAA|apply zAC)|exact HB.out))));rintro e w' ⟨rfl,⟨nd,rfl⟩⟩))
      go_ret
      exact ⟨by first|rfl|(simp;done)|(simp [*];done),by repeat (first|exact zAk.refl _|apply zAk.step)⟩
     ·rw [if_neg c9] at H
      have c9b0:(t111 == (a0.size:Int))=false:=beq_eq_false_iff_ne.mpr c9
      have c9b1:(t111 != (a0.size:Int))=true:=bne_iff_ne.mpr c9
      obtain rfl:=Option.some.inj H
      have p5:0≤(0:Int):=(by omega)
      have q5:0<a0.size:=(by have:(0:Int)<(a0.size:Int):=of_decide_eq_true (by first|(with_reducible assumption)|assumption);omega)
      have hx5:∀ h:0<a0.size,((a0[0]'h).toNat:Int)=bt a0 0:=bt_at a0 0
      clear p5
      have qi5:(0<(a0.size:Int))=True:=eq_true (of_decide_eq_true (by first|(with_reducible assumption)|assumption))
      replace q5:=eq_true q5
      go_enter Tryd.func55,Tryd.ntmps55
      go_wp2_with (first|(go_at_call 76;(with_reducible refine (scan_letter.calls (bt a0 0) true _ A6.out).mono ?_);rintro e w' ⟨rfl,⟨nd,rfl⟩⟩)|(go_at_call 77;(with_reducible refine (scan_run_inner.calls a0 t111 _ A8.out).mono ?_);rintro e w' ⟨rfl,⟨nd,rfl⟩⟩))
      go_ret
      exact ⟨by first|rfl|(simp;done)|(simp [*];done),by repeat (first|exact zAk.refl _|apply zAk.step)⟩
    ·replace c7:=Bool.eq_false_iff.mpr c7
     subst c7
     have H1:(some false)=some r:=by rw [if_neg (show ¬ (false=true) by decide)] at H;exact H
     clear H
     have H:=H1
     clear H1
     obtain rfl:=Option.some.inj H
     have p5:0≤(0:Int):=(by omega)
     have q5:0<a0.size:=(by have:(0:Int)<(a0.size:Int):=of_decide_eq_true (by first|(with_reducible assumption)|assumption);omega)
     have hx5:∀ h:0<a0.size,((a0[0]'h).toNat:Int)=bt a0 0:=bt_at a0 0
     clear p5
     have qi5:(0<(a0.size:Int))=True:=eq_true (of_decide_eq_true (by first|(with_reducible assumption)|assumption))
     replace q5:=eq_true q5
     go_enter Tryd.func55,Tryd.ntmps55
     go_wp2_with (first|(go_at_call 76;(with_reducible refine (scan_letter.calls (bt a0 0) false _ A6.out).mono ?_);rintro e w' ⟨rfl,⟨nd,rfl⟩⟩))
     go_ret
     exact ⟨by first|rfl|(simp;done)|(simp [*];done),by repeat (first|exact zAk.refl _|apply zAk.step)⟩
   ·rw [if_neg c4] at H
    exact absurd H (by simp)
  ·rw [if_neg c3] at H
   have c3b0:decide ((a0.size:Int)≤32)=false:=decide_eq_false c3
   have c3b1:decide (a0.size≤32)=false:=decide_eq_false (by omega)
   clear c3
   obtain rfl:=Option.some.inj H
   go_enter Tryd.func55,Tryd.ntmps55
   go_wp2
   go_ret
   exact ⟨by first|rfl|(simp;done)|(simp [*];done),by repeat (first|exact zAk.refl _|apply zAk.step)⟩
end Go.Proofs.YthbnigjckjkmnaaDoor.S

namespace Go.Proofs.YthbnigjckjkmnaaDoor.S
open Go.RowKit Go.Proofs.YthbnigjckjkmnaaDoorW.PrintWords
def idxL (nm : ByteArray) : List (S47) → Int → Int
  | [], _ => -1
  | d :: rest, n => if (d.f0.toList == nm.toList) = true then n else idxL nm rest (n + 1)
theorem idxL_drop (nm : ByteArray) (xs : List (S47)) (i : Nat) (h : i < xs.length) : idxL nm (xs.drop i) i = if ((rd_T47 xs i).f0.toList == nm.toList) = true then (i : Int) else idxL nm (xs.drop (i + 1)) ((i + 1 : Nat) : Int) := by
  rw [List.drop_eq_getElem_cons h, idxL]
  have : rd_T47 xs i = xs[i] := by simp [rd_T47, List.getD_eq_getElem?_getD, List.getElem?_eq_getElem h]
  rw [this]
  rfl
set_option maxHeartbeats 1000000 in
set_option maxRecDepth 100000 in
theorem ahead_any (a nm : ByteArray) (n : Int) (p : Addr) (w : World) (hp : w.cell? p = some (.string nm)) :
    Calls Tryd.prog 56 #[.agg #[.string a, .int .i64 n], .pointer (some p)] w fun e w' => e = .returned (.bool (a.toList == nm.toList)) ∧ Below w.heap.size w w' := by
  have g0 := fun o => zAV (zAB (Below.refl w.heap.size w) o) hp
  clear hp
  go_enter Tryd.func56, Tryd.ntmps56
  go_wp2
  go_ret
  exact ⟨rfl, zAB (Below.refl _ _) _⟩
set_option maxHeartbeats 4000000 in
set_option maxRecDepth 100000 in
theorem index_any (A0 : Option Addr) (c0 : Nat) (l0 : List (S47)) (nm : ByteArray) (p : Addr) (w : World) (hr0 : Kd.C k47 w A0 l0.length l0) (hc0 : l0.length ≤ c0) (hp : w.cell? p = some (.string nm)) :
    Calls Tryd.prog 80 #[.slice A0 l0.length c0, .func (.func 56) #[] #[.pointer (some p)]] w fun e w' => e = .returned (.int .i64 (idxL nm l0 0)) ∧ Below w.heap.size w w' := by
  have hm := hr0.2.1
  have HR := aK_ hr0
  have HC := aK_ hc0
  have HP := aK_ hp
  clear hr0 hc0 hp
  go_enter Tryd.func80, Tryd.ntmps80
  go_wp2
  go_loopg [8] l0.length (fun kq v8 w' => ∃ i : Nat, v8 = .int .i64 (i : Int) ∧ zAa (i ≤ l0.length) ∧ zAa (kq = l0.length - i) ∧ zAa (idxL nm l0 0 = idxL nm (l0.drop i) i) ∧ zAa (Below w.heap.size w w'))
  case atStart => exact ⟨0, rfl, ⟨Nat.zero_le _⟩, ⟨rfl⟩, ⟨rfl⟩, ⟨Below.refl _ _⟩⟩
  case round =>
    obtain ⟨i, rfl, HI, HK, HE, HB⟩ := hrel
    by_cases hlt : i < l0.length
    · have h0 : (0 : Int) ≤ (i : Int) := by omega
      have h1 : (i : Int) < (l0.length : Int) := by omega
      obtain ⟨ad, e1, hx0, hx1⟩ := at_T47 (Kd.C_below HR.out HB.out) (i : Int) h0 h1
      cases e1
      simp only [Int.toNat_natCast] at hx0 hx1
      have hs := idxL_drop nm l0 i hlt
      have hw : wrap64 ((i : Int) + 1) = ((i + 1 : Nat) : Int) := by unfold wrap64; omega
      cases hq : ((rd_T47 l0 i).f0.toList == nm.toList) with
      | true =>
        rw [hq, if_pos rfl] at hs
        have HS := aK_ hs
        have HQ := aK_ hq
        have HW := aK_ hw
        clear hs hq hw
        go_wp2_with (first | (go_at_call 56; refine (ahead_any _ nm _ p _ (zAV HB.out HP.out)).mono ?_; rintro e w' ⟨rfl, hb_⟩; have HB2 := aK_ hb_; clear hb_; rw [HQ.out]))
        go_ret
        exact ⟨by rw [HE.out, HS.out]; rfl, below_then HB.out HB.out.size HB2.out⟩
      | false =>
        rw [hq, if_neg (by decide)] at hs
        have HS := aK_ hs
        have HQ := aK_ hq
        have HW := aK_ hw
        clear hs hq hw
        go_wp2_with (first | (go_at_call 56; refine (ahead_any _ nm _ p _ (zAV HB.out HP.out)).mono ?_; rintro e w' ⟨rfl, hb_⟩; have HB2 := aK_ hb_; clear hb_; rw [HQ.out]))
        go_roundg (l0.length - (i + 1))
        case measure => have := HK.out; omega
        case rel => exact ⟨i + 1, by first | (rw [HW.out]; done) | (simp; done), ⟨hlt⟩, ⟨rfl⟩, ⟨by rw [HE.out, HS.out]⟩, ⟨below_then HB.out HB.out.size HB2.out⟩⟩
    · have hi : i = l0.length := by have := HI.out; omega
      subst hi
      go_wp2
      go_ret
      exact ⟨by rw [HE.out, List.drop_length]; rfl, HB.out⟩
set_option maxHeartbeats 1000000 in
set_option maxRecDepth 100000 in
theorem contains_any (A0 : Option Addr) (c0 : Nat) (l0 : List (S47)) (nm : ByteArray) (p : Addr) (w : World) (hr0 : Kd.C k47 w A0 l0.length l0) (hc0 : l0.length ≤ c0) (hp : w.cell? p = some (.string nm)) :
    Calls Tryd.prog 57 #[.slice A0 l0.length c0, .func (.func 56) #[] #[.pointer (some p)]] w fun e w' => e = .returned (.bool (decide (idxL nm l0 0 ≥ 0))) ∧ Below w.heap.size w w' := by
  have HR := aK_ hr0
  have HC := aK_ hc0
  have HP := aK_ hp
  clear hr0 hc0 hp
  go_enter Tryd.func57, Tryd.ntmps57
  go_wp2_with (first | (go_at_call 80; refine (index_any A0 c0 l0 nm p _ HR.out HC.out HP.out).mono ?_; rintro e w' ⟨rfl, hb_⟩; have HB2 := aK_ hb_; clear hb_))
  go_ret
  exact ⟨rfl, HB2.out⟩
def dimsL (pre : List (S47)) : List (S47) → Option Int
  | [] => some 0
  | d :: rest => (scan_Name.f d.f0).bind fun b => if b = true then (if idxL d.f0 pre 0 ≥ 0 then some 61 else if d.f1 < 1 ∨ d.f1 > 1000000000000 then some 50 else dimsL (pre ++ [d]) rest) else some 61
def modeE (a0_2 : Int) (e : Int) : Option Int := if e = 0 then (if a0_2 < 0 ∨ a0_2 > 4 then some 50 else some 0) else some e
def tree_head.f (k : Nat) (a0_0 : ByteArray) (l0_1 : List (S47)) (a0_2 : Int) (l0_3 : List (S33)) : Option Int :=
  (scan_Name.f a0_0).bind fun b => if b = true then (if (l0_1.length : Int) < 1 ∨ (l0_1.length : Int) > 4 then some 100 else (dimsL [] l0_1).bind (modeE a0_2)) else some 61
theorem tree_head.mono : ∀ a0 a1 a2 a3 k, LeO (tree_head.f k a0 a1 a2 a3) (tree_head.f (k + 1) a0 a1 a2 a3) := fun _ _ _ _ _ => LeO.refl _
theorem dimsL_drop (xs : List (S47)) (i : Nat) (h : i < xs.length) (z : Int → Option Int) (r : Int) (hr : (dimsL (xs.take i) (xs.drop i)).bind z = some r) :
    ∃ b, scan_Name.f (rd_T47 xs i).f0 = some b ∧ ((b = false ∧ z 61 = some r) ∨ (b = true ∧ idxL (rd_T47 xs i).f0 (xs.take i) 0 ≥ 0 ∧ z 61 = some r) ∨
      (b = true ∧ ¬ idxL (rd_T47 xs i).f0 (xs.take i) 0 ≥ 0 ∧ (rd_T47 xs i).f1 < 1 ∧ z 50 = some r) ∨ (b = true ∧ ¬ idxL (rd_T47 xs i).f0 (xs.take i) 0 ≥ 0 ∧ ¬ (rd_T47 xs i).f1 < 1 ∧ (rd_T47 xs i).f1 > 1000000000000 ∧ z 50 = some r) ∨
      (b = true ∧ ¬ idxL (rd_T47 xs i).f0 (xs.take i) 0 ≥ 0 ∧ ¬ (rd_T47 xs i).f1 < 1 ∧ ¬ (rd_T47 xs i).f1 > 1000000000000 ∧ (dimsL (xs.take (i + 1)) (xs.drop (i + 1))).bind z = some r)) := by
  have e1 : rd_T47 xs i = xs[i] := by simp [rd_T47, List.getD_eq_getElem?_getD, List.getElem?_eq_getElem h]
  rw [e1]
  rw [List.drop_eq_getElem_cons h, dimsL] at hr
  obtain ⟨e, h1, h2⟩ := Option.bind_eq_some_iff.1 hr
  obtain ⟨b, h3, h4⟩ := Option.bind_eq_some_iff.1 h1
  refine ⟨b, h3, ?_⟩
  cases b with
  | false =>
    rw [if_neg (by decide)] at h4
    obtain rfl := Option.some.inj h4
    exact .inl ⟨rfl, h2⟩
  | true =>
    rw [if_pos rfl] at h4
    by_cases c1 : idxL xs[i].f0 (xs.take i) 0 ≥ 0
    · rw [if_pos c1] at h4
      obtain rfl := Option.some.inj h4
      exact .inr (.inl ⟨rfl, c1, h2⟩)
    · rw [if_neg c1] at h4
      by_cases c2 : xs[i].f1 < 1
      · rw [if_pos (.inl c2)] at h4
        obtain rfl := Option.some.inj h4
        exact .inr (.inr (.inl ⟨rfl, c1, c2, h2⟩))
      · by_cases c3 : xs[i].f1 > 1000000000000
        · rw [if_pos (.inr c3)] at h4
          obtain rfl := Option.some.inj h4
          exact .inr (.inr (.inr (.inl ⟨rfl, c1, c2, c3, h2⟩)))
        · rw [if_neg (by omega)] at h4
          refine .inr (.inr (.inr (.inr ⟨rfl, c1, c2, c3, ?_⟩)))
          rw [List.take_succ_eq_append_getElem h]
          exact Option.bind_eq_some_iff.2 ⟨e, h4, h2⟩
set_option maxHeartbeats 8000000 in
set_option maxRecDepth 100000 in
theorem tree_head.calls (k : Nat) (a0_0 : ByteArray) (A0_1 : Option Addr) (c0_1 : Nat) (l0_1 : List (S47)) (a0_2 : Int) (A0_3 : Option Addr) (c0_3 : Nat) (l0_3 : List (S33)) (r : Int) (w : World) (hG : GW w) (hr0_1 : Kd.C k47 w A0_1 l0_1.length l0_1) (hc0_1 : l0_1.length ≤ c0_1) (hr0_3 : Kd.C k33 w A0_3 l0_3.length l0_3) (hc0_3 : l0_3.length ≤ c0_3) (h : tree_head.f k a0_0 l0_1 a0_2 l0_3 = some r) :
    Calls Tryd.prog 37 #[.agg #[.string a0_0, .slice A0_1 l0_1.length c0_1, .int .i64 a0_2, .slice A0_3 l0_3.length c0_3]] w fun e w' => e = .returned (.int .i64 r) ∧ Below w.heap.size w w' := by
  have hm := hr0_1.2.1
  have HR := aK_ hr0_1
  have HC := aK_ hc0_1
  have HG := aK_ hG
  clear hr0_1 hc0_1 hr0_3 hc0_3 hG
  obtain ⟨b, hb, h⟩ := Option.bind_eq_some_iff.1 h
  have HNM := aK_ hb
  clear hb
  cases b with
  | false =>
    rw [if_neg (by decide)] at h
    obtain rfl := Option.some.inj h
    clear h
    go_enter Tryd.func37, Tryd.ntmps37
    go_wp2_with (first | (go_at_call 55; refine (scan_Name.calls _ _ _ (HG.out.alloc) HNM.out).mono ?_; rintro e w' ⟨rfl, nd, rfl⟩))
    go_ret
    exact ⟨rfl, zAA (zAB (Below.refl _ _) _) _⟩
  | true =>
    rw [if_pos rfl] at h
    by_cases h1 : (l0_1.length : Int) < 1
    · rw [if_pos (.inl h1)] at h
      obtain rfl := Option.some.inj h
      clear h
      go_enter Tryd.func37, Tryd.ntmps37
      go_wp2_with (first | (go_at_call 55; refine (scan_Name.calls _ _ _ (HG.out.alloc) HNM.out).mono ?_; rintro e w' ⟨rfl, nd, rfl⟩))
      go_ret
      exact ⟨rfl, zAA (zAB (Below.refl _ _) _) _⟩
    · by_cases h2 : 4 < (l0_1.length : Int)
      · rw [if_pos (.inr h2)] at h
        obtain rfl := Option.some.inj h
        clear h
        go_enter Tryd.func37, Tryd.ntmps37
        go_wp2_with (first | (go_at_call 55; refine (scan_Name.calls _ _ _ (HG.out.alloc) HNM.out).mono ?_; rintro e w' ⟨rfl, nd, rfl⟩))
        all_goals first | (exfalso; omega) | skip
        go_ret
        exact ⟨rfl, zAA (zAB (Below.refl _ _) _) _⟩
      · rw [if_neg (by omega)] at h
        have H := aK_ h
        clear h
        go_enter Tryd.func37, Tryd.ntmps37
        go_wp2_with (first | (go_at_call 55; refine (scan_Name.calls _ _ _ (HG.out.alloc) HNM.out).mono ?_; rintro e w' ⟨rfl, nd, rfl⟩))
        all_goals first | (exfalso; omega) | skip
        have hbk0 : (w.alloc (.cells #[.string a0_0, .slice A0_1 l0_1.length c0_1, .int .i64 a0_2, .slice A0_3 l0_3.length c0_3] 25)).heap[w.heap.size]? = some (.cells #[.string a0_0, .slice A0_1 l0_1.length c0_1, .int .i64 a0_2, .slice A0_3 l0_3.length c0_3] 25 (0, 0)) := heap_alloc_new w _
        have HBK0 := aK_ hbk0
        clear hbk0
        go_loopg [23] l0_1.length (fun kq v23 w' => ∃ i : Nat, v23 = .int .i64 (i : Int) ∧ zAa (i ≤ l0_1.length) ∧ zAa (kq = l0_1.length - i) ∧ zAa ((dimsL (l0_1.take i) (l0_1.drop i)).bind (modeE a0_2) = some r) ∧ zAa (w'.heap[w.heap.size]? = some (.cells #[.string a0_0, .slice A0_1 l0_1.length c0_1, .int .i64 a0_2, .slice A0_3 l0_3.length c0_3] 25 (0, 0))) ∧ zAa (Below w.heap.size w w'))
        case atStart => exact ⟨0, rfl, ⟨Nat.zero_le _⟩, ⟨rfl⟩, ⟨by simpa using H.out⟩, ⟨zAG HBK0.out nd⟩, ⟨zAA (zAB (Below.refl _ _) _) _⟩⟩
        case round =>
          clear H HBK0
          obtain ⟨i, rfl, HI, HK, HE, BK, HB⟩ := hrel
          have hc0 : wr.cell? ⟨w.heap.size, 0, none⟩ = some (.string a0_0) := (zAE BK.out 0).trans rfl
          have hc1 : wr.cell? ⟨w.heap.size, 1, none⟩ = some (.slice A0_1 l0_1.length c0_1) := (zAE BK.out 1).trans rfl
          have hc2 : wr.cell? ⟨w.heap.size, 2, none⟩ = some (.int .i64 a0_2) := (zAE BK.out 2).trans rfl
          have ha1 : ∀ o, (wr.alloc o).cell? ⟨w.heap.size, 1, none⟩ = some (.slice A0_1 l0_1.length c0_1) := fun o => zAV (zAB (Below.refl _ _) o) hc1
          by_cases hlt : i < l0_1.length
          · have h0 : (0 : Int) ≤ (i : Int) := by omega
            have h1 : (i : Int) < (l0_1.length : Int) := by omega
            obtain ⟨ad, e1, hx0, hx1⟩ := at_T47 (Kd.C_below HR.out HB.out) (i : Int) h0 h1
            simp only [Int.toNat_natCast] at hx0 hx1
            obtain ⟨b, hb, hcase⟩ := dimsL_drop l0_1 i hlt (modeE a0_2) r HE.out
            have HNB := aK_ hb
            clear hb
            have hsl : ∀ W : World, (Instr.slice 22 (.slice A0_1 l0_1.length c0_1) none (some (.int .i64 (i : Int))) none).run Tryd.prog W = .ok (.slice A0_1 i c0_1) W := by
              intro W
              have hu : Tryd.prog.underlying 22 = some (.slice (Tryd.prog.elem 22)) := by simp [Program.elem, Tryd.underlying22]
              have ha : (A0_1.map fun x => x.add 0) = A0_1 := by cases A0_1 <;> simp [Addr.add]
              obtain ⟨i0, hi, _⟩ := Option.map_eq_some_iff.1 info47
              have hel : Tryd.prog.elem 22 = 47 := by simp [Program.elem, Tryd.underlying22]
              rw [run_slice_h W 22 A0_1 l0_1.length c0_1 hu .i64 (i : Int) h0 (by have := HC.out; omega), hel]
              simp [sizeOf, typeInfo, hi, sliced, Result.andThen, ha]
            have hlen : (l0_1.take i).length = i := by rw [List.length_take]; omega
            generalize hF : (rd_T47 l0_1 (i : Int)) = F at *
            have hcon : ∀ n : Nat, Calls Tryd.prog 57 #[.slice A0_1 i c0_1, .func (.func 56) #[] #[.pointer (some ⟨wr.heap.size, 0, none⟩)]] ((wr.alloc (.cells #[.string F.f0, .int .i64 F.f1] 47)).drewN n) (fun e w' => e = .returned (.bool (decide (idxL F.f0 (l0_1.take i) 0 ≥ 0))) ∧ Below ((wr.alloc (.cells #[.string F.f0, .int .i64 F.f1] 47)).drewN n).heap.size ((wr.alloc (.cells #[.string F.f0, .int .i64 F.f1] 47)).drewN n) w') := by
              intro n
              have hC := Kd.C_take HR.out (m := i) (Nat.le_of_lt hlt)
              have q := contains_any A0_1 c0_1 (l0_1.take i) F.f0 ⟨wr.heap.size, 0, none⟩ ((wr.alloc (.cells #[.string F.f0, .int .i64 F.f1] 47)).drewN n) (Kd.C_below hC (zAA (zAB HB.out _) _)) (by rw [hlen]; have := HC.out; omega) ((zAE (zAG (heap_alloc_new wr _) n) 0).trans rfl)
              rw [hlen] at q
              exact q
            have HCON := aK_ hcon
            clear hcon
            cases e1
            rcases hcase with ⟨rfl, hz⟩ | ⟨rfl, hi1, hz⟩ | ⟨rfl, hi1, hs1, hz⟩ | ⟨rfl, hi1, hs1, hs2, hz⟩ | ⟨rfl, hi1, hs1, hs2, hz⟩
            · obtain rfl : 61 = r := Option.some.inj hz
              go_wp2_with (first | (go_at_call 55; refine (scan_Name.calls _ _ _ ((HG.out.below HB.out).alloc) HNB.out).mono ?_; rintro e w' ⟨rfl, nd2, rfl⟩))
              go_ret
              exact ⟨rfl, zAA (zAB HB.out _) _⟩
            · obtain rfl : 61 = r := Option.some.inj hz
              have HD := aK_ (decide_eq_true hi1)
              clear hi1
              go_wp2_with (first | (go_at_call 55; refine (scan_Name.calls _ _ _ ((HG.out.below HB.out).alloc) HNB.out).mono ?_; rintro e w' ⟨rfl, nd2, rfl⟩) | (go_at_call 57; refine (HCON.out nd2).mono ?_; rintro e w' ⟨rfl, hb2⟩; rw [HD.out]; have HB2 := aK_ hb2; clear hb2))
              go_ret
              exact ⟨rfl, below_then (zAA (zAB HB.out _) nd2) (zAA (zAB HB.out _) nd2).size HB2.out⟩
            · obtain rfl : 50 = r := Option.some.inj hz
              have HD := aK_ (decide_eq_false hi1)
              clear hi1
              go_wp2_with (first | (go_at_call 55; refine (scan_Name.calls _ _ _ ((HG.out.below HB.out).alloc) HNB.out).mono ?_; rintro e w' ⟨rfl, nd2, rfl⟩) | (go_at_call 57; refine (HCON.out nd2).mono ?_; rintro e w2 ⟨rfl, hb2⟩; rw [HD.out]; have hd1 : w2.cell? ⟨wr.heap.size, 1, none⟩ = some (.int .i64 F.f1) := zAV hb2 ((zAE (zAG (heap_alloc_new wr _) nd2) 1).trans rfl); have HB2 := aK_ hb2; clear hb2))
              all_goals first | (exfalso; omega) | skip
              go_ret
              exact ⟨rfl, below_then (zAA (zAB HB.out _) nd2) (zAA (zAB HB.out _) nd2).size HB2.out⟩
            · obtain rfl : 50 = r := Option.some.inj hz
              have HD := aK_ (decide_eq_false hi1)
              clear hi1
              go_wp2_with (first | (go_at_call 55; refine (scan_Name.calls _ _ _ ((HG.out.below HB.out).alloc) HNB.out).mono ?_; rintro e w' ⟨rfl, nd2, rfl⟩) | (go_at_call 57; refine (HCON.out nd2).mono ?_; rintro e w2 ⟨rfl, hb2⟩; rw [HD.out]; have hd1 : w2.cell? ⟨wr.heap.size, 1, none⟩ = some (.int .i64 F.f1) := zAV hb2 ((zAE (zAG (heap_alloc_new wr _) nd2) 1).trans rfl); have HB2 := aK_ hb2; clear hb2))
              all_goals first | (exfalso; omega) | skip
              go_ret
              exact ⟨rfl, below_then (zAA (zAB HB.out _) nd2) (zAA (zAB HB.out _) nd2).size HB2.out⟩
            · have HD := aK_ (decide_eq_false hi1)
              have HZ := aK_ hz
              clear hi1 hz
              go_wp2_with (first | (go_at_call 55; refine (scan_Name.calls _ _ _ ((HG.out.below HB.out).alloc) HNB.out).mono ?_; rintro e w' ⟨rfl, nd2, rfl⟩) | (go_at_call 57; refine (HCON.out nd2).mono ?_; rintro e w2 ⟨rfl, hb2⟩; rw [HD.out]; have hd1 : w2.cell? ⟨wr.heap.size, 1, none⟩ = some (.int .i64 F.f1) := zAV hb2 ((zAE (zAG (heap_alloc_new wr _) nd2) 1).trans rfl); have HB2 := aK_ hb2; clear hb2))
              all_goals first | (exfalso; omega) | skip
              go_roundg (l0_1.length - (i + 1))
              case measure => have := HK.out; omega
              case rel => exact ⟨i + 1, by first | (simp; done) | (congr 1; unfold wrap64; omega), ⟨hlt⟩, ⟨rfl⟩, ⟨HZ.out⟩, ⟨zAX (zAG (zAH BK.out _) _) HB2.out⟩, ⟨below_then (zAA (zAB HB.out _) nd2) (zAA (zAB HB.out _) nd2).size HB2.out⟩⟩
          · have hi : i = l0_1.length := by have := HI.out; omega
            subst hi
            have hz := HE.out
            rw [List.drop_length] at hz
            have hz' : modeE a0_2 0 = some r := hz
            unfold modeE at hz'
            rw [if_pos rfl] at hz'
            by_cases m1 : a0_2 < 0
            · rw [if_pos (.inl m1)] at hz'
              obtain rfl : 50 = r := Option.some.inj hz'
              clear hz hz'
              go_wp2
              go_ret
              exact ⟨rfl, HB.out⟩
            · by_cases m2 : 4 < a0_2
              · rw [if_pos (.inr m2)] at hz'
                obtain rfl : 50 = r := Option.some.inj hz'
                clear hz hz'
                go_wp2
                all_goals first | (exfalso; omega) | skip
                go_ret
                exact ⟨rfl, HB.out⟩
              · rw [if_neg (by omega)] at hz'
                obtain rfl : 0 = r := Option.some.inj hz'
                clear hz hz'
                go_wp2
                all_goals first | (exfalso; omega) | skip
                go_ret
                exact ⟨rfl, HB.out⟩
end Go.Proofs.YthbnigjckjkmnaaDoor.S

namespace Go.Proofs.YthbnigjckjkmnaaDoor.S
open Go.RowKit Go.Proofs.YthbnigjckjkmnaaDoorW.PrintWords Go.Proofs.YthbnigjckjkmnaaDoorW.PrintLast Go.Proofs.YthbnigjckjkmnaaDoorW.PrintMore
attribute [local go_sem] max2_int min2_int max_two min_two max_three min_three max_four min_four
def zAh.l0:Nat→Int→List (S33)→Int→Int→ByteArray→List (S47)→Int→List (S33)→Option (Int × Int)
 |0,_,_,_,_,_,_,_,_=>none
 |k+1,x5,x19,x20,x21,x118000,x118001,x118002,x118003=>if x21<x20 then (if 0≤x21 then (if x21<(x19.length:Int) then ((tree_node.f k ((zAJ x19 x21).f0) ((zAJ x19 x21).f1) ((zAJ x19 x21).f2) ((zAJ x19 x21).f3) ((zAJ x19 x21).f4) ((zAJ x19 x21).f5) (x118001.length:Int) x5).bind fun t121=>(if t121=0 then ((tree_takes.f ((zAJ x19 x21).f0) ((zAJ x19 x21).f1) ((zAJ x19 x21).f2) ((zAJ x19 x21).f3) ((zAJ x19 x21).f4) ((zAJ x19 x21).f5)).bind fun t122=>(zAh.l0 k (wrap64 (x5+(wrap64 (1 - t122)))) x19 x20 (wrap64 (x21+1)) x118000 x118001 x118002 x118003)) else (some (x21,t121)))) else (none)) else (none)) else (if x5=1 then (some (0,0)) else (some ((x118003.length:Int),50)))
def zAh.f (k:Nat) (a0_0:ByteArray) (l0_1:List (S47)) (a0_2:Int) (l0_3:List (S33)):Option (Int × Int):=(tree_head.f k a0_0 l0_1 a0_2 l0_3).bind fun t118=>(if t118=0 then (if (l0_3.length:Int) > 1024 then (some (1024,2)) else (zAh.l0 k 0 l0_3 (l0_3.length:Int) 0 a0_0 l0_1 a0_2 l0_3)) else (some ((-1),t118)))
theorem zAh.mono_l:∀ k,(∀ y0 y1 y2 y3 y4 y5 y6 y7,LeO (zAh.l0 k y0 y1 y2 y3 y4 y5 y6 y7) (zAh.l0 (k+1) y0 y1 y2 y3 y4 y5 y6 y7))
 |0=>fun _ _ _ _ _ _ _ _ r h=>by simp [zAh.l0] at h
 |k+1=>by
  have ih0:=zAh.mono_l k
  ·intro y0 y1 y2 y3 y4 y5 y6 y7
   unfold zAh.l0
   repeat' first
   |(with_reducible exact ih0 _ _ _ _ _ _ _ _)
   |(with_reducible exact tree_head.mono _ _ _ _ _)
   |(with_reducible exact tree_node.mono _ _ _ _ _ _ _ _ _)
   |(with_reducible exact LeO.refl _)
   |(with_reducible exact LeO.none _)
   |(with_reducible refine LeO.ite ?_ ?_)
   |(with_reducible refine LeO.bind ?_ (fun _=>?_))
   |exact ih0 _ _ _ _ _ _ _ _
   |exact tree_head.mono _ _ _ _ _
   |exact tree_node.mono _ _ _ _ _ _ _ _ _
   |exact LeO.none _
   |refine LeO.ite ?_ ?_
   |refine LeO.bind ?_ (fun _=>?_)
theorem zAh.mono:∀ a0 a1 a2 a3 k,LeO (zAh.f k a0 a1 a2 a3) (zAh.f (k+1) a0 a1 a2 a3):=by
 intro a0 a1 a2 a3 k
 have ih0:=zAh.mono_l k
 unfold zAh.f
 repeat' first
   |(with_reducible exact ih0 _ _ _ _ _ _ _ _)
   |(with_reducible exact tree_head.mono _ _ _ _ _)
   |(with_reducible exact tree_node.mono _ _ _ _ _ _ _ _ _)
   |(with_reducible exact LeO.refl _)
   |(with_reducible exact LeO.none _)
   |(with_reducible refine LeO.ite ?_ ?_)
   |(with_reducible refine LeO.bind ?_ (fun _=>?_))
   |exact ih0 _ _ _ _ _ _ _ _
   |exact tree_head.mono _ _ _ _ _
   |exact tree_node.mono _ _ _ _ _ _ _ _ _
   |exact LeO.none _
   |refine LeO.ite ?_ ?_
   |refine LeO.bind ?_ (fun _=>?_)
set_option maxHeartbeats 8000000 in
set_option maxRecDepth 100000 in
theorem zAh.calls (k:Nat) (a0_0:ByteArray) (A0_1:Option Addr) (c0_1:Nat) (l0_1:List (S47)) (a0_2:Int) (A0_3:Option Addr) (c0_3:Nat) (l0_3:List (S33)) (r1:Int) (r2:Int) (w:World) (hG:GW w) (hr0_1:Kd.C k47 w A0_1 l0_1.length l0_1) (hc0_1:l0_1.length≤c0_1) (hr0_3:Kd.C k33 w A0_3 l0_3.length l0_3) (hc0_3:l0_3.length≤c0_3) (h:zAh.f k a0_0 l0_1 a0_2 l0_3=some (r1,r2)) :
  Calls Tryd.prog 16 #[.agg #[.string a0_0,.slice A0_1 l0_1.length c0_1,.int .i64 a0_2,.slice A0_3 l0_3.length c0_3]] w fun e w'=>e = .returned (.tuple #[.int .i64 r1,.int .i64 r2])∧Below w.heap.size w w':=by
 have hu25:=Tryd.underlying25
 have hu33:=Tryd.underlying33
 have HR0_1:=aK_ hr0_1
 have HC0_1:=aK_ hc0_1
 clear hr0_1 hc0_1
 have HR0_3:=aK_ hr0_3
 have HC0_3:=aK_ hc0_3
 clear hr0_3 hc0_3
 have HB:=aK_ (Below.refl w.heap.size w)
 have H:((tree_head.f k a0_0 l0_1 a0_2 l0_3).bind fun t118=>(if t118=0 then (if (l0_3.length:Int) > 1024 then (some (1024,2)) else (zAh.l0 k 0 l0_3 (l0_3.length:Int) 0 a0_0 l0_1 a0_2 l0_3)) else (some ((-1),t118))))=some (r1,r2):=h
 clear h
 replace H:=Option.bind_eq_some_iff.mp H
 obtain ⟨t118,A20,H⟩:=H
 replace H:(if t118=0 then (if (l0_3.length:Int) > 1024 then (some (1024,2)) else (zAh.l0 k 0 l0_3 (l0_3.length:Int) 0 a0_0 l0_1 a0_2 l0_3)) else (some ((-1),t118)))=some (r1,r2):=H
 have A2:=aK_ A20
 clear A20
 by_cases c3:t118=0
 ·rw [if_pos c3] at H
  have c3b0:(t118 == 0)=true:=beq_iff_eq.mpr c3
  have c3b1:(t118 != 0)=false:=bne_eq_false_iff_eq.mpr c3
  clear c3
  by_cases c4:(l0_3.length:Int) > 1024
  ·rw [if_pos c4] at H
   have c4b0:decide (1024<(l0_3.length:Int))=true:=decide_eq_true c4
   have c4b1:decide (1024<l0_3.length)=true:=decide_eq_true (by omega)
   clear c4
   simp only [Option.some.injEq,Prod.mk.injEq] at H
   obtain ⟨rfl,rfl⟩:=H
   go_enter Tryd.func16,Tryd.ntmps16
   go_wp2_with (first|((with_reducible refine zAf (N:=1) rfl ?_);refine zAc ?hg (N:=1) ?hd (cs:=#[.string a0_0,.slice A0_1 l0_1.length c0_1,.int .i64 a0_2,.slice A0_3 l0_3.length c0_3]) (t:=25) ?hr ?_;(case hd=>rfl);(case hg=>rfl);(case hr=>first|(go_simp;done)|(go_simp;rfl));intro gb117 hg w5 hbox hb;have n0_:=aK_ (zAL (by repeat (first|(with_reducible first|exact HB.out|apply zAB|apply zAA|apply zAC)|exact HB.out)) hb);have n1_:=aK_ (hbox);have n2_:=aK_ ((by rw [hg];exact (zAK (by repeat (first|(with_reducible first|exact HB.out|apply zAB|apply zAA|apply zAC)|exact HB.out))):w.heap.size≤gb117));have n3_:=aK_ ((by rw [hg];exact (zAK (by repeat (first|(with_reducible first|exact HB.out|apply zAB|apply zAA|apply zAC)|exact HB.out))):w.heap.size≤gb117));clear HB;have HB:=n0_;have BK117:=n1_;have GW117:=n2_;have GE117:=n3_;clear n0_ n1_ n2_ n3_;clear hb hbox hg;have hcz6_0:w5.cell? ⟨gb117,0,none⟩=some (.string a0_0):=(zAE BK117.out 0).trans rfl;have hcz6_1:w5.cell? ⟨gb117,1,none⟩=some (.slice A0_1 l0_1.length c0_1):=(zAE BK117.out 1).trans rfl;have hcz6_2:w5.cell? ⟨gb117,2,none⟩=some (.int .i64 a0_2):=(zAE BK117.out 2).trans rfl;have hcz6_3:w5.cell? ⟨gb117,3,none⟩=some (.slice A0_3 l0_3.length c0_3):=(zAE BK117.out 3).trans rfl;have hfz6_0:=zAD BK117.out 0;have hfz6_1:=zAD BK117.out 1;have hfz6_2:=zAD BK117.out 2;have hfz6_3:=zAD BK117.out 3)|((with_reducible refine zAb (f:=37) rfl ?_);refine goesL_ (some 10) rfl rfl Tryd.func37 (by kernel_rfl) rfl #[.agg #[.string a0_0,.slice A0_1 l0_1.length c0_1,.int .i64 a0_2,.slice A0_3 l0_3.length c0_3]] rfl (by (try simp only [List.map_toArray,List.map_cons,List.map_nil]);first|done|rfl|(simp only [List.length_drop,List.length_take];rfl)) ?_;(with_reducible refine (tree_head.calls k a0_0 _ _ l0_1 a0_2 _ _ l0_3 t118 _ ?side1 ?side2 ?side3 ?side4 ?side5 A2.out).mono ?_);(case side1=>(first|(with_reducible exact hG)|((repeat (with_reducible first|exact hG|apply GW.drewN|apply GW.drew|apply GW.alloc));done)|exact GW.below hG (by repeat (first|(with_reducible first|exact HB.out|apply zAB|apply zAA|apply zAC|refine zAF ?_ GE117.out)|exact HB.out))));(case side2=>repeat (first|exact (Kd.C_below HR0_1.out HB.out)|(with_reducible refine Kd.C_alloc ?_ _)|(with_reducible refine Kd.C_drewN ?_ _)|(with_reducible refine Kd.C_drew ?_)));(case side3=>exact HC0_1.out);(case side4=>repeat (first|exact (Kd.C_below HR0_3.out HB.out)|(with_reducible refine Kd.C_alloc ?_ _)|(with_reducible refine Kd.C_drewN ?_ _)|(with_reducible refine Kd.C_drew ?_)));(case side5=>exact HC0_3.out);rintro e w7 ⟨rfl,hb⟩;refine ⟨_,rfl,?_⟩;have n0_:=aK_ (zAX (g:=gb117) (o:=.cells #[.string a0_0,.slice A0_1 l0_1.length c0_1,.int .i64 a0_2,.slice A0_3 l0_3.length c0_3] 25 (0,0)) (by (with_reducible repeat (first|refine zAG ?_ _|refine zAI ?_|refine zAH ?_ _));exact BK117.out) hb);have n1_:=aK_ (zAL (by repeat (first|(with_reducible first|exact HB.out|apply zAB|apply zAA|apply zAC|refine zAF ?_ GE117.out)|exact HB.out)) hb);clear BK117;clear HB;have BK117:=n0_;have HB:=n1_;clear n0_ n1_;(try clear hb);(try clear hb2);(try clear hk);(try clear hi);have hcz8_0:w7.cell? ⟨gb117,0,none⟩=some (.string a0_0):=(zAE BK117.out 0).trans rfl;have hcz8_1:w7.cell? ⟨gb117,1,none⟩=some (.slice A0_1 l0_1.length c0_1):=(zAE BK117.out 1).trans rfl;have hcz8_2:w7.cell? ⟨gb117,2,none⟩=some (.int .i64 a0_2):=(zAE BK117.out 2).trans rfl;have hcz8_3:w7.cell? ⟨gb117,3,none⟩=some (.slice A0_3 l0_3.length c0_3):=(zAE BK117.out 3).trans rfl;have hfz8_0:=zAD BK117.out 0;have hfz8_1:=zAD BK117.out 1;have hfz8_2:=zAD BK117.out 2;have hfz8_3:=zAD BK117.out 3))
   go_ret2
   exact ⟨by first|rfl|(simp [zAQ,zAP] <;> rfl)|(simp [*,zAQ,zAP] <;> rfl),by repeat (first|(with_reducible first|exact HB.out|apply zAB|apply zAA|apply zAC|refine zAF ?_ GE117.out)|exact HB.out)⟩
  ·rw [if_neg c4] at H
   have c4b0:decide (1024<(l0_3.length:Int))=false:=decide_eq_false c4
   have c4b1:decide (1024<l0_3.length)=false:=decide_eq_false (by omega)
   clear c4
   have H':=aK_ H
   clear H
   go_enter Tryd.func16,Tryd.ntmps16
   go_wp2_with (first|((with_reducible refine zAf (N:=1) rfl ?_);refine zAc ?hg (N:=1) ?hd (cs:=#[.string a0_0,.slice A0_1 l0_1.length c0_1,.int .i64 a0_2,.slice A0_3 l0_3.length c0_3]) (t:=25) ?hr ?_;(case hd=>rfl);(case hg=>rfl);(case hr=>first|(go_simp;done)|(go_simp;rfl));intro gb117 hg w9 hbox hb;have n0_:=aK_ (zAL (by repeat (first|(with_reducible first|exact HB.out|apply zAB|apply zAA|apply zAC)|exact HB.out)) hb);have n1_:=aK_ (hbox);have n2_:=aK_ ((by rw [hg];exact (zAK (by repeat (first|(with_reducible first|exact HB.out|apply zAB|apply zAA|apply zAC)|exact HB.out))):w.heap.size≤gb117));have n3_:=aK_ ((by rw [hg];exact (zAK (by repeat (first|(with_reducible first|exact HB.out|apply zAB|apply zAA|apply zAC)|exact HB.out))):w.heap.size≤gb117));clear HB;have HB:=n0_;have BK117:=n1_;have GW117:=n2_;have GE117:=n3_;clear n0_ n1_ n2_ n3_;clear hb hbox hg;have hcz10_0:w9.cell? ⟨gb117,0,none⟩=some (.string a0_0):=(zAE BK117.out 0).trans rfl;have hcz10_1:w9.cell? ⟨gb117,1,none⟩=some (.slice A0_1 l0_1.length c0_1):=(zAE BK117.out 1).trans rfl;have hcz10_2:w9.cell? ⟨gb117,2,none⟩=some (.int .i64 a0_2):=(zAE BK117.out 2).trans rfl;have hcz10_3:w9.cell? ⟨gb117,3,none⟩=some (.slice A0_3 l0_3.length c0_3):=(zAE BK117.out 3).trans rfl;have hfz10_0:=zAD BK117.out 0;have hfz10_1:=zAD BK117.out 1;have hfz10_2:=zAD BK117.out 2;have hfz10_3:=zAD BK117.out 3)|((with_reducible refine zAb (f:=37) rfl ?_);refine goesL_ (some 10) rfl rfl Tryd.func37 (by kernel_rfl) rfl #[.agg #[.string a0_0,.slice A0_1 l0_1.length c0_1,.int .i64 a0_2,.slice A0_3 l0_3.length c0_3]] rfl (by (try simp only [List.map_toArray,List.map_cons,List.map_nil]);first|done|rfl|(simp only [List.length_drop,List.length_take];rfl)) ?_;(with_reducible refine (tree_head.calls k a0_0 _ _ l0_1 a0_2 _ _ l0_3 t118 _ ?side1 ?side2 ?side3 ?side4 ?side5 A2.out).mono ?_);(case side1=>(first|(with_reducible exact hG)|((repeat (with_reducible first|exact hG|apply GW.drewN|apply GW.drew|apply GW.alloc));done)|exact GW.below hG (by repeat (first|(with_reducible first|exact HB.out|apply zAB|apply zAA|apply zAC|refine zAF ?_ GE117.out)|exact HB.out))));(case side2=>repeat (first|exact (Kd.C_below HR0_1.out HB.out)|(with_reducible refine Kd.C_alloc ?_ _)|(with_reducible refine Kd.C_drewN ?_ _)|(with_reducible refine Kd.C_drew ?_)));(case side3=>exact HC0_1.out);(case side4=>repeat (first|exact (Kd.C_below HR0_3.out HB.out)|(with_reducible refine Kd.C_alloc ?_ _)|(with_reducible refine Kd.C_drewN ?_ _)|(with_reducible refine Kd.C_drew ?_)));(case side5=>exact HC0_3.out);rintro e w11 ⟨rfl,hb⟩;refine ⟨_,rfl,?_⟩;have n0_:=aK_ (zAX (g:=gb117) (o:=.cells #[.string a0_0,.slice A0_1 l0_1.length c0_1,.int .i64 a0_2,.slice A0_3 l0_3.length c0_3] 25 (0,0)) (by (with_reducible repeat (first|refine zAG ?_ _|refine zAI ?_|refine zAH ?_ _));exact BK117.out) hb);have n1_:=aK_ (zAL (by repeat (first|(with_reducible first|exact HB.out|apply zAB|apply zAA|apply zAC|refine zAF ?_ GE117.out)|exact HB.out)) hb);clear BK117;clear HB;have BK117:=n0_;have HB:=n1_;clear n0_ n1_;(try clear hb);(try clear hb2);(try clear hk);(try clear hi);have hcz12_0:w11.cell? ⟨gb117,0,none⟩=some (.string a0_0):=(zAE BK117.out 0).trans rfl;have hcz12_1:w11.cell? ⟨gb117,1,none⟩=some (.slice A0_1 l0_1.length c0_1):=(zAE BK117.out 1).trans rfl;have hcz12_2:w11.cell? ⟨gb117,2,none⟩=some (.int .i64 a0_2):=(zAE BK117.out 2).trans rfl;have hcz12_3:w11.cell? ⟨gb117,3,none⟩=some (.slice A0_3 l0_3.length c0_3):=(zAE BK117.out 3).trans rfl;have hfz12_0:=zAD BK117.out 0;have hfz12_1:=zAD BK117.out 1;have hfz12_2:=zAD BK117.out 2;have hfz12_3:=zAD BK117.out 3))
   (try simp only [Act.put,List.setIfInBounds_toArray,List.set_cons_zero,List.set_cons_succ])
   go_loopg [5,21] k (fun kq v5 v21 w'=>∃ (x5_1:Int) (x21_1:Int),v5 = .int .i64 x5_1∧v21 = .int .i64 x21_1∧zAa (zAh.l0 kq x5_1 l0_3 (l0_3.length:Int) x21_1 a0_0 l0_1 a0_2 l0_3=some (r1,r2))∧zAa (kq≤k)∧zAa (w'.heap[gb117]?=some (.cells #[.string a0_0,(.slice A0_1 l0_1.length c0_1),.int .i64 a0_2,(.slice A0_3 l0_3.length c0_3)] 25 (0,0)))∧zAa (Below w.heap.size w w'))
   case atStart=>exact ⟨(0),(0),(by first|rfl|(simp;done)|(simp [*];done)),(by first|rfl|(simp;done)|(simp [*];done)),H',⟨Nat.le_refl _⟩,⟨by (with_reducible repeat (first|refine zAG ?_ _|refine zAI ?_|refine zAH ?_ _));exact BK117.out⟩,⟨by repeat (first|(with_reducible first|exact HB.out|apply zAB|apply zAA|apply zAC|refine zAF ?_ GE117.out)|exact HB.out)⟩⟩
   case round =>
    clear H'
    try clear c1
    try clear p2
    try clear c3
    try clear c3b0
    try clear c3b1
    try clear c4
    try clear c4b0
    try clear c4b1
    try clear hcz10_0
    try clear hcz10_1
    try clear hcz10_2
    try clear hcz10_3
    try clear hcz12_0
    try clear hcz12_1
    try clear hcz12_2
    try clear hcz12_3
    try clear hcz6_0
    try clear hcz6_1
    try clear hcz6_2
    try clear hcz6_3
    try clear hcz8_0
    try clear hcz8_1
    try clear hcz8_2
    try clear hcz8_3
    try clear hfz10_0
    try clear hfz10_1
    try clear hfz10_2
    try clear hfz10_3
    try clear hfz12_0
    try clear hfz12_1
    try clear hfz12_2
    try clear hfz12_3
    try clear hfz6_0
    try clear hfz6_1
    try clear hfz6_2
    try clear hfz6_3
    try clear hfz8_0
    try clear hfz8_1
    try clear hfz8_2
    try clear hfz8_3
    obtain ⟨x5_1,x21_1,rfl,rfl,HA,HK1,BK117,HB⟩:=hrel
    cases gk with
    |zero=>exact absurd HA.out (by simp [zAh.l0])
    |succ k1 =>
     have H:=HA.out
     clear HA
     simp only [zAh.l0] at H
     by_cases c13:x21_1<(l0_3.length:Int)
     ·rw [if_pos c13] at H
      have c13b0:decide (x21_1<(l0_3.length:Int))=true:=decide_eq_true c13
      clear c13
      by_cases c14:0≤x21_1
      ·rw [if_pos c14] at H
       have c14b0:decide (0≤x21_1)=true:=decide_eq_true c14
       clear c14
       by_cases c15:x21_1<(l0_3.length:Int)
       ·rw [if_pos c15] at H
        have c15b0:decide (x21_1<(l0_3.length:Int))=true:=decide_eq_true c15
        clear c15
        replace H:=Option.bind_eq_some_iff.mp H
        obtain ⟨t121,A160,H⟩:=H
        replace H:(if t121=0 then ((tree_takes.f ((zAJ l0_3 x21_1).f0) ((zAJ l0_3 x21_1).f1) ((zAJ l0_3 x21_1).f2) ((zAJ l0_3 x21_1).f3) ((zAJ l0_3 x21_1).f4) ((zAJ l0_3 x21_1).f5)).bind fun t122=>(zAh.l0 k1 (wrap64 (x5_1+(wrap64 (1 - t122)))) l0_3 (l0_3.length:Int) (wrap64 (x21_1+1)) a0_0 l0_1 a0_2 l0_3)) else (some (x21_1,t121)))=some (r1,r2):=H
        have A16:=aK_ A160
        clear A160
        by_cases c17:t121=0
        ·rw [if_pos c17] at H
         have c17b0:(t121 == 0)=true:=beq_iff_eq.mpr c17
         have c17b1:(t121 != 0)=false:=bne_eq_false_iff_eq.mpr c17
         clear c17
         replace H:=Option.bind_eq_some_iff.mp H
         obtain ⟨t122,A180,H⟩:=H
         replace H:(zAh.l0 k1 (wrap64 (x5_1+(wrap64 (1 - t122)))) l0_3 (l0_3.length:Int) (wrap64 (x21_1+1)) a0_0 l0_1 a0_2 l0_3)=some (r1,r2):=H
         have A18:=aK_ A180
         clear A180
         have H':=aK_ H
         clear H
         have p119:0≤(x21_1:Int):=of_decide_eq_true (by first|(with_reducible assumption)|assumption)
         have q119:x21_1<(l0_3.length:Int):=of_decide_eq_true (by first|(with_reducible assumption)|assumption)
         obtain ⟨ad119,A119_4,c119_4,e119,hx119_0,hx119_1,hx119_2,hx119_3,hx119_4,hx119_5,hl119_4,hi119_4⟩:=at_T33 HR0_3.out x21_1 p119 q119
         cases e119
         replace hx119_0:=(HB.out.cell (World.block_lt_of_cell? w _ hx119_0)).trans hx119_0
         replace hx119_1:=(HB.out.cell (World.block_lt_of_cell? w _ hx119_1)).trans hx119_1
         replace hx119_2:=(HB.out.cell (World.block_lt_of_cell? w _ hx119_2)).trans hx119_2
         replace hx119_3:=(HB.out.cell (World.block_lt_of_cell? w _ hx119_3)).trans hx119_3
         replace hx119_4:=(HB.out.cell (World.block_lt_of_cell? w _ hx119_4)).trans hx119_4
         replace hx119_5:=(HB.out.cell (World.block_lt_of_cell? w _ hx119_5)).trans hx119_5
         have HR119_4:=aK_ hi119_4
         have HC119_4:=aK_ hl119_4
         clear hi119_4 hl119_4
         replace p119:=eq_true p119
         replace q119:=eq_true q119
         go_wp2_with (first|((with_reducible refine zAf (N:=7) rfl ?_);refine zAc ?hg (N:=7) ?hd (cs:=#[.int .i64 0,.int .i64 0,.int .i64 0,.int .i64 0,.slice none 0 0,.int .i64 0]) (t:=33) ?hr ?_;(case hd=>rfl);(case hg=>rfl);(case hr=>first|(go_simp;done)|(go_simp;rfl));intro gb120 hg w19 hbox hb;have n0_:=aK_ (zAX (g:=gb117) (o:=.cells #[.string a0_0,.slice A0_1 l0_1.length c0_1,.int .i64 a0_2,.slice (some ad119) l0_3.length c0_3] 25 (0,0)) (by (with_reducible repeat (first|refine zAG ?_ _|refine zAI ?_|refine zAH ?_ _));exact BK117.out) hb);have n1_:=aK_ (zAL (by repeat (first|(with_reducible first|exact HB.out|apply zAB|apply zAA|apply zAC|refine zAF ?_ GE117.out)|exact HB.out)) hb);have n2_:=aK_ (hbox);have n3_:=aK_ ((by rw [hg];exact (zAK (by repeat (first|(with_reducible first|exact HB.out|apply zAB|apply zAA|apply zAC|refine zAF ?_ GE117.out)|exact HB.out))):w.heap.size≤gb120));have n4_:=aK_ ((by rw [hg];exact (zAK (by repeat (first|(with_reducible first|exact HB.out|apply zAB|apply zAA|apply zAC|refine zAF ?_ GE117.out)|exact HB.out))):w.heap.size≤gb120));have n5_:=aK_ ((by rw [hg];exact Nat.ne_of_lt (blk_lt (g:=gb117) (o:=.cells #[.string a0_0,.slice A0_1 l0_1.length c0_1,.int .i64 a0_2,.slice (some ad119) l0_3.length c0_3] 25 (0,0)) (by (with_reducible repeat (first|refine zAG ?_ _|refine zAI ?_|refine zAH ?_ _));exact BK117.out)):gb117≠gb120));have n6_:=aK_ ((by rw [hg];exact Nat.ne_of_gt (blk_lt (g:=gb117) (o:=.cells #[.string a0_0,.slice A0_1 l0_1.length c0_1,.int .i64 a0_2,.slice (some ad119) l0_3.length c0_3] 25 (0,0)) (by (with_reducible repeat (first|refine zAG ?_ _|refine zAI ?_|refine zAH ?_ _));exact BK117.out)):gb120≠gb117));clear BK117;clear HB;have BK117:=n0_;have HB:=n1_;have BK120:=n2_;have GW120:=n3_;have GE120:=n4_;have NB117_120:=n5_;have NB120_117:=n6_;clear n0_ n1_ n2_ n3_ n4_ n5_ n6_;clear hb hbox hg;have hnb20:=NB120_117.out;have hnc20:=NB117_120.out;have hcz21_0:w19.cell? ⟨gb120,0,none⟩=some (.int .i64 0):=(zAE BK120.out 0).trans rfl;have hcz21_1:w19.cell? ⟨gb120,1,none⟩=some (.int .i64 0):=(zAE BK120.out 1).trans rfl;have hcz21_2:w19.cell? ⟨gb120,2,none⟩=some (.int .i64 0):=(zAE BK120.out 2).trans rfl;have hcz21_3:w19.cell? ⟨gb120,3,none⟩=some (.int .i64 0):=(zAE BK120.out 3).trans rfl;have hcz21_4:w19.cell? ⟨gb120,4,none⟩=some (.slice none 0 0):=(zAE BK120.out 4).trans rfl;have hcz21_5:w19.cell? ⟨gb120,5,none⟩=some (.int .i64 0):=(zAE BK120.out 5).trans rfl;have hfz21_0:=zAD BK120.out 0;have hfz21_1:=zAD BK120.out 1;have hfz21_2:=zAD BK120.out 2;have hfz21_3:=zAD BK120.out 3;have hfz21_4:=zAD BK120.out 4;have hfz21_5:=zAD BK120.out 5;have hcz22_0:w19.cell? ⟨gb117,0,none⟩=some (.string a0_0):=(zAE BK117.out 0).trans rfl;have hcz22_1:w19.cell? ⟨gb117,1,none⟩=some (.slice A0_1 l0_1.length c0_1):=(zAE BK117.out 1).trans rfl;have hcz22_2:w19.cell? ⟨gb117,2,none⟩=some (.int .i64 a0_2):=(zAE BK117.out 2).trans rfl;have hcz22_3:w19.cell? ⟨gb117,3,none⟩=some (.slice (some ad119) l0_3.length c0_3):=(zAE BK117.out 3).trans rfl;have hfz22_0:=zAD BK117.out 0;have hfz22_1:=zAD BK117.out 1;have hfz22_2:=zAD BK117.out 2;have hfz22_3:=zAD BK117.out 3)|((with_reducible refine zAb (f:=38) rfl ?_);refine goesL_ (some 31) rfl rfl Tryd.func38 (by kernel_rfl) rfl #[.agg #[.int .i64 ((zAJ l0_3 x21_1).f0),.int .i64 ((zAJ l0_3 x21_1).f1),.int .i64 ((zAJ l0_3 x21_1).f2),.int .i64 ((zAJ l0_3 x21_1).f3),.slice A119_4 ((zAJ l0_3 x21_1).f4).length c119_4,.int .i64 ((zAJ l0_3 x21_1).f5)],.int .i64 (l0_1.length:Int),.int .i64 x5_1] rfl (by (try simp only [List.map_toArray,List.map_cons,List.map_nil]);first|done|rfl|(simp only [List.length_drop,List.length_take];rfl)) ?_;(with_reducible refine (tree_node.calls k1 ((zAJ l0_3 x21_1).f0) ((zAJ l0_3 x21_1).f1) ((zAJ l0_3 x21_1).f2) ((zAJ l0_3 x21_1).f3) _ _ ((zAJ l0_3 x21_1).f4) ((zAJ l0_3 x21_1).f5) (l0_1.length:Int) x5_1 t121 _ ?side1 ?side2 ?side3 A16.out).mono ?_);(case side1=>(first|(with_reducible exact hG)|((repeat (with_reducible first|exact hG|apply GW.drewN|apply GW.drew|apply GW.alloc));done)|exact GW.below hG (by repeat (first|(with_reducible first|exact HB.out|apply zAB|apply zAA|apply zAC|refine zAF ?_ GE117.out|refine zAF ?_ GE120.out)|exact HB.out))));(case side2=>exact Kd.C_below HR119_4.out (by repeat (first|(with_reducible first|exact HB.out|apply zAB|apply zAA|apply zAC|refine zAF ?_ GE117.out|refine zAF ?_ GE120.out)|exact HB.out)));(case side3=>exact HC119_4.out);rintro e w23 ⟨rfl,hb⟩;refine ⟨_,rfl,?_⟩;have n0_:=aK_ (zAX (g:=gb117) (o:=.cells #[.string a0_0,.slice A0_1 l0_1.length c0_1,.int .i64 a0_2,.slice (some ad119) l0_3.length c0_3] 25 (0,0)) (by (with_reducible repeat (first|refine zAG ?_ _|refine zAI ?_|refine zAH ?_ _));refine blk_far ?_ NB117_120.out _;(with_reducible repeat (first|refine zAG ?_ _|refine zAI ?_|refine zAH ?_ _));refine blk_far ?_ NB117_120.out _;(with_reducible repeat (first|refine zAG ?_ _|refine zAI ?_|refine zAH ?_ _));refine blk_far ?_ NB117_120.out _;(with_reducible repeat (first|refine zAG ?_ _|refine zAI ?_|refine zAH ?_ _));refine blk_far ?_ NB117_120.out _;(with_reducible repeat (first|refine zAG ?_ _|refine zAI ?_|refine zAH ?_ _));refine blk_far ?_ NB117_120.out _;(with_reducible repeat (first|refine zAG ?_ _|refine zAI ?_|refine zAH ?_ _));refine blk_far ?_ NB117_120.out _;(with_reducible repeat (first|refine zAG ?_ _|refine zAI ?_|refine zAH ?_ _));exact BK117.out) hb);have n1_:=aK_ (zAX (g:=gb120) (o:=.cells #[.int .i64 ((zAJ l0_3 x21_1).f0),.int .i64 ((zAJ l0_3 x21_1).f1),.int .i64 ((zAJ l0_3 x21_1).f2),.int .i64 ((zAJ l0_3 x21_1).f3),.slice A119_4 ((zAJ l0_3 x21_1).f4).length c119_4,.int .i64 ((zAJ l0_3 x21_1).f5)] 33 (0,0)) (by (with_reducible repeat (first|refine zAG ?_ _|refine zAI ?_|refine zAH ?_ _));refine zAi (cs:=#[.int .i64 ((zAJ l0_3 x21_1).f0),.int .i64 ((zAJ l0_3 x21_1).f1),.int .i64 ((zAJ l0_3 x21_1).f2),.int .i64 ((zAJ l0_3 x21_1).f3),.slice A119_4 ((zAJ l0_3 x21_1).f4).length c119_4,.int .i64 0]) ?_ 5 _ rfl;(with_reducible repeat (first|refine zAG ?_ _|refine zAI ?_|refine zAH ?_ _));refine zAi (cs:=#[.int .i64 ((zAJ l0_3 x21_1).f0),.int .i64 ((zAJ l0_3 x21_1).f1),.int .i64 ((zAJ l0_3 x21_1).f2),.int .i64 ((zAJ l0_3 x21_1).f3),.slice none 0 0,.int .i64 0]) ?_ 4 _ rfl;(with_reducible repeat (first|refine zAG ?_ _|refine zAI ?_|refine zAH ?_ _));refine zAi (cs:=#[.int .i64 ((zAJ l0_3 x21_1).f0),.int .i64 ((zAJ l0_3 x21_1).f1),.int .i64 ((zAJ l0_3 x21_1).f2),.int .i64 0,.slice none 0 0,.int .i64 0]) ?_ 3 _ rfl;(with_reducible repeat (first|refine zAG ?_ _|refine zAI ?_|refine zAH ?_ _));refine zAi (cs:=#[.int .i64 ((zAJ l0_3 x21_1).f0),.int .i64 ((zAJ l0_3 x21_1).f1),.int .i64 0,.int .i64 0,.slice none 0 0,.int .i64 0]) ?_ 2 _ rfl;(with_reducible repeat (first|refine zAG ?_ _|refine zAI ?_|refine zAH ?_ _));refine zAi (cs:=#[.int .i64 ((zAJ l0_3 x21_1).f0),.int .i64 0,.int .i64 0,.int .i64 0,.slice none 0 0,.int .i64 0]) ?_ 1 _ rfl;(with_reducible repeat (first|refine zAG ?_ _|refine zAI ?_|refine zAH ?_ _));refine zAi (cs:=#[.int .i64 0,.int .i64 0,.int .i64 0,.int .i64 0,.slice none 0 0,.int .i64 0]) ?_ 0 _ rfl;(with_reducible repeat (first|refine zAG ?_ _|refine zAI ?_|refine zAH ?_ _));exact BK120.out) hb);have n2_:=aK_ (zAL (by repeat (first|(with_reducible first|exact HB.out|apply zAB|apply zAA|apply zAC|refine zAF ?_ GE117.out|refine zAF ?_ GE120.out)|exact HB.out)) hb);clear BK117;clear BK120;clear HB;have BK117:=n0_;have BK120:=n1_;have HB:=n2_;clear n0_ n1_ n2_;(try clear hb);(try clear hb2);(try clear hk);(try clear hi);have hcz24_0:w23.cell? ⟨gb120,0,none⟩=some (.int .i64 ((zAJ l0_3 x21_1).f0)):=(zAE BK120.out 0).trans rfl;have hcz24_1:w23.cell? ⟨gb120,1,none⟩=some (.int .i64 ((zAJ l0_3 x21_1).f1)):=(zAE BK120.out 1).trans rfl;have hcz24_2:w23.cell? ⟨gb120,2,none⟩=some (.int .i64 ((zAJ l0_3 x21_1).f2)):=(zAE BK120.out 2).trans rfl;have hcz24_3:w23.cell? ⟨gb120,3,none⟩=some (.int .i64 ((zAJ l0_3 x21_1).f3)):=(zAE BK120.out 3).trans rfl;have hcz24_4:w23.cell? ⟨gb120,4,none⟩=some (.slice A119_4 ((zAJ l0_3 x21_1).f4).length c119_4):=(zAE BK120.out 4).trans rfl;have hcz24_5:w23.cell? ⟨gb120,5,none⟩=some (.int .i64 ((zAJ l0_3 x21_1).f5)):=(zAE BK120.out 5).trans rfl;have hfz24_0:=zAD BK120.out 0;have hfz24_1:=zAD BK120.out 1;have hfz24_2:=zAD BK120.out 2;have hfz24_3:=zAD BK120.out 3;have hfz24_4:=zAD BK120.out 4;have hfz24_5:=zAD BK120.out 5)|((with_reducible refine zAb (f:=39) rfl ?_);refine goesL_ (some 38) rfl rfl Tryd.func39 (by kernel_rfl) rfl #[.agg #[.int .i64 ((zAJ l0_3 x21_1).f0),.int .i64 ((zAJ l0_3 x21_1).f1),.int .i64 ((zAJ l0_3 x21_1).f2),.int .i64 ((zAJ l0_3 x21_1).f3),.slice A119_4 ((zAJ l0_3 x21_1).f4).length c119_4,.int .i64 ((zAJ l0_3 x21_1).f5)]] rfl (by (try simp only [List.map_toArray,List.map_cons,List.map_nil]);first|done|rfl|(simp only [List.length_drop,List.length_take];rfl)) ?_;(with_reducible refine (tree_takes.calls ((zAJ l0_3 x21_1).f0) ((zAJ l0_3 x21_1).f1) ((zAJ l0_3 x21_1).f2) ((zAJ l0_3 x21_1).f3) _ _ ((zAJ l0_3 x21_1).f4) ((zAJ l0_3 x21_1).f5) t122 _ ?side1 ?side2 ?side3 A18.out).mono ?_);(case side1=>(first|(with_reducible exact hG)|((repeat (with_reducible first|exact hG|apply GW.drewN|apply GW.drew|apply GW.alloc));done)|exact GW.below hG (by repeat (first|(with_reducible first|exact HB.out|apply zAB|apply zAA|apply zAC|refine zAF ?_ GE117.out|refine zAF ?_ GE120.out)|exact HB.out))));(case side2=>repeat (first|exact (Kd.C_below HR119_4.out HB.out)|(with_reducible refine Kd.C_alloc ?_ _)|(with_reducible refine Kd.C_drewN ?_ _)|(with_reducible refine Kd.C_drew ?_)));(case side3=>exact HC119_4.out);rintro e w25 ⟨rfl,hb⟩;refine ⟨_,rfl,?_⟩;have n0_:=aK_ (zAX (g:=gb117) (o:=.cells #[.string a0_0,.slice A0_1 l0_1.length c0_1,.int .i64 a0_2,.slice (some ad119) l0_3.length c0_3] 25 (0,0)) (by (with_reducible repeat (first|refine zAG ?_ _|refine zAI ?_|refine zAH ?_ _));exact BK117.out) hb);have n1_:=aK_ (zAX (g:=gb120) (o:=.cells #[.int .i64 ((zAJ l0_3 x21_1).f0),.int .i64 ((zAJ l0_3 x21_1).f1),.int .i64 ((zAJ l0_3 x21_1).f2),.int .i64 ((zAJ l0_3 x21_1).f3),.slice A119_4 ((zAJ l0_3 x21_1).f4).length c119_4,.int .i64 ((zAJ l0_3 x21_1).f5)] 33 (0,0)) (by (with_reducible repeat (first|refine zAG ?_ _|refine zAI ?_|refine zAH ?_ _));exact BK120.out) hb);have n2_:=aK_ (zAL (by repeat (first|(with_reducible first|exact HB.out|apply zAB|apply zAA|apply zAC|refine zAF ?_ GE117.out|refine zAF ?_ GE120.out)|exact HB.out)) hb);clear BK117;clear BK120;clear HB;have BK117:=n0_;have BK120:=n1_;have HB:=n2_;clear n0_ n1_ n2_;(try clear hb);(try clear hb2);(try clear hk);(try clear hi)))
         go_roundg k1
         case measure=>have:=HK1.out;omega
         case rel=>exact ⟨(wrap64 (x5_1+(wrap64 (1 - t122)))),(wrap64 (x21_1+1)),(by first|rfl|(simp;done)|(simp [*];done)),(by first|rfl|(simp;done)|(simp [*];done)),H',⟨by have:=HK1.out;omega⟩,⟨by (with_reducible repeat (first|refine zAG ?_ _|refine zAI ?_|refine zAH ?_ _));exact BK117.out⟩,⟨by repeat (first|(with_reducible first|exact HB.out|apply zAB|apply zAA|apply zAC|refine zAF ?_ GE117.out|refine zAF ?_ GE120.out)|exact HB.out)⟩⟩
        ·rw [if_neg c17] at H
         have c17b0:(t121 == 0)=false:=beq_eq_false_iff_ne.mpr c17
         have c17b1:(t121 != 0)=true:=bne_iff_ne.mpr c17
         simp only [Option.some.injEq,Prod.mk.injEq] at H
         obtain ⟨rfl,rfl⟩:=H
         have p119:0≤(x21_1:Int):=of_decide_eq_true (by first|(with_reducible assumption)|assumption)
         have q119:x21_1<(l0_3.length:Int):=of_decide_eq_true (by first|(with_reducible assumption)|assumption)
         obtain ⟨ad119,A119_4,c119_4,e119,hx119_0,hx119_1,hx119_2,hx119_3,hx119_4,hx119_5,hl119_4,hi119_4⟩:=at_T33 HR0_3.out x21_1 p119 q119
         cases e119
         replace hx119_0:=(HB.out.cell (World.block_lt_of_cell? w _ hx119_0)).trans hx119_0
         replace hx119_1:=(HB.out.cell (World.block_lt_of_cell? w _ hx119_1)).trans hx119_1
         replace hx119_2:=(HB.out.cell (World.block_lt_of_cell? w _ hx119_2)).trans hx119_2
         replace hx119_3:=(HB.out.cell (World.block_lt_of_cell? w _ hx119_3)).trans hx119_3
         replace hx119_4:=(HB.out.cell (World.block_lt_of_cell? w _ hx119_4)).trans hx119_4
         replace hx119_5:=(HB.out.cell (World.block_lt_of_cell? w _ hx119_5)).trans hx119_5
         have HR119_4:=aK_ hi119_4
         have HC119_4:=aK_ hl119_4
         clear hi119_4 hl119_4
         replace p119:=eq_true p119
         replace q119:=eq_true q119
         go_wp2_with (first|((with_reducible refine zAf (N:=7) rfl ?_);refine zAc ?hg (N:=7) ?hd (cs:=#[.int .i64 0,.int .i64 0,.int .i64 0,.int .i64 0,.slice none 0 0,.int .i64 0]) (t:=33) ?hr ?_;(case hd=>rfl);(case hg=>rfl);(case hr=>first|(go_simp;done)|(go_simp;rfl));intro gb120 hg w26 hbox hb;have n0_:=aK_ (zAX (g:=gb117) (o:=.cells #[.string a0_0,.slice A0_1 l0_1.length c0_1,.int .i64 a0_2,.slice (some ad119) l0_3.length c0_3] 25 (0,0)) (by (with_reducible repeat (first|refine zAG ?_ _|refine zAI ?_|refine zAH ?_ _));exact BK117.out) hb);have n1_:=aK_ (zAL (by repeat (first|(with_reducible first|exact HB.out|apply zAB|apply zAA|apply zAC|refine zAF ?_ GE117.out)|exact HB.out)) hb);have n2_:=aK_ (hbox);have n3_:=aK_ ((by rw [hg];exact (zAK (by repeat (first|(with_reducible first|exact HB.out|apply zAB|apply zAA|apply zAC|refine zAF ?_ GE117.out)|exact HB.out))):w.heap.size≤gb120));have n4_:=aK_ ((by rw [hg];exact (zAK (by repeat (first|(with_reducible first|exact HB.out|apply zAB|apply zAA|apply zAC|refine zAF ?_ GE117.out)|exact HB.out))):w.heap.size≤gb120));have n5_:=aK_ ((by rw [hg];exact Nat.ne_of_lt (blk_lt (g:=gb117) (o:=.cells #[.string a0_0,.slice A0_1 l0_1.length c0_1,.int .i64 a0_2,.slice (some ad119) l0_3.length c0_3] 25 (0,0)) (by (with_reducible repeat (first|refine zAG ?_ _|refine zAI ?_|refine zAH ?_ _));exact BK117.out)):gb117≠gb120));have n6_:=aK_ ((by rw [hg];exact Nat.ne_of_gt (blk_lt (g:=gb117) (o:=.cells #[.string a0_0,.slice A0_1 l0_1.length c0_1,.int .i64 a0_2,.slice (some ad119) l0_3.length c0_3] 25 (0,0)) (by (with_reducible repeat (first|refine zAG ?_ _|refine zAI ?_|refine zAH ?_ _));exact BK117.out)):gb120≠gb117));clear BK117;clear HB;have BK117:=n0_;have HB:=n1_;have BK120:=n2_;have GW120:=n3_;have GE120:=n4_;have NB117_120:=n5_;have NB120_117:=n6_;clear n0_ n1_ n2_ n3_ n4_ n5_ n6_;clear hb hbox hg;have hnb27:=NB120_117.out;have hnc27:=NB117_120.out;have hcz28_0:w26.cell? ⟨gb120,0,none⟩=some (.int .i64 0):=(zAE BK120.out 0).trans rfl;have hcz28_1:w26.cell? ⟨gb120,1,none⟩=some (.int .i64 0):=(zAE BK120.out 1).trans rfl;have hcz28_2:w26.cell? ⟨gb120,2,none⟩=some (.int .i64 0):=(zAE BK120.out 2).trans rfl;have hcz28_3:w26.cell? ⟨gb120,3,none⟩=some (.int .i64 0):=(zAE BK120.out 3).trans rfl;have hcz28_4:w26.cell? ⟨gb120,4,none⟩=some (.slice none 0 0):=(zAE BK120.out 4).trans rfl;have hcz28_5:w26.cell? ⟨gb120,5,none⟩=some (.int .i64 0):=(zAE BK120.out 5).trans rfl;have hfz28_0:=zAD BK120.out 0;have hfz28_1:=zAD BK120.out 1;have hfz28_2:=zAD BK120.out 2;have hfz28_3:=zAD BK120.out 3;have hfz28_4:=zAD BK120.out 4;have hfz28_5:=zAD BK120.out 5;have hcz29_0:w26.cell? ⟨gb117,0,none⟩=some (.string a0_0):=(zAE BK117.out 0).trans rfl;have hcz29_1:w26.cell? ⟨gb117,1,none⟩=some (.slice A0_1 l0_1.length c0_1):=(zAE BK117.out 1).trans rfl;have hcz29_2:w26.cell? ⟨gb117,2,none⟩=some (.int .i64 a0_2):=(zAE BK117.out 2).trans rfl;have hcz29_3:w26.cell? ⟨gb117,3,none⟩=some (.slice (some ad119) l0_3.length c0_3):=(zAE BK117.out 3).trans rfl;have hfz29_0:=zAD BK117.out 0;have hfz29_1:=zAD BK117.out 1;have hfz29_2:=zAD BK117.out 2;have hfz29_3:=zAD BK117.out 3)|((with_reducible refine zAb (f:=38) rfl ?_);refine goesL_ (some 31) rfl rfl Tryd.func38 (by kernel_rfl) rfl #[.agg #[.int .i64 ((zAJ l0_3 x21_1).f0),.int .i64 ((zAJ l0_3 x21_1).f1),.int .i64 ((zAJ l0_3 x21_1).f2),.int .i64 ((zAJ l0_3 x21_1).f3),.slice A119_4 ((zAJ l0_3 x21_1).f4).length c119_4,.int .i64 ((zAJ l0_3 x21_1).f5)],.int .i64 (l0_1.length:Int),.int .i64 x5_1] rfl (by (try simp only [List.map_toArray,List.map_cons,List.map_nil]);first|done|rfl|(simp only [List.length_drop,List.length_take];rfl)) ?_;(with_reducible refine (tree_node.calls k1 ((zAJ l0_3 x21_1).f0) ((zAJ l0_3 x21_1).f1) ((zAJ l0_3 x21_1).f2) ((zAJ l0_3 x21_1).f3) _ _ ((zAJ l0_3 x21_1).f4) ((zAJ l0_3 x21_1).f5) (l0_1.length:Int) x5_1 t121 _ ?side1 ?side2 ?side3 A16.out).mono ?_);(case side1=>(first|(with_reducible exact hG)|((repeat (with_reducible first|exact hG|apply GW.drewN|apply GW.drew|apply GW.alloc));done)|exact GW.below hG (by repeat (first|(with_reducible first|exact HB.out|apply zAB|apply zAA|apply zAC|refine zAF ?_ GE117.out|refine zAF ?_ GE120.out)|exact HB.out))));(case side2=>exact Kd.C_below HR119_4.out (by repeat (first|(with_reducible first|exact HB.out|apply zAB|apply zAA|apply zAC|refine zAF ?_ GE117.out|refine zAF ?_ GE120.out)|exact HB.out)));(case side3=>exact HC119_4.out);rintro e w30 ⟨rfl,hb⟩;refine ⟨_,rfl,?_⟩;have n0_:=aK_ (zAX (g:=gb117) (o:=.cells #[.string a0_0,.slice A0_1 l0_1.length c0_1,.int .i64 a0_2,.slice (some ad119) l0_3.length c0_3] 25 (0,0)) (by (with_reducible repeat (first|refine zAG ?_ _|refine zAI ?_|refine zAH ?_ _));refine blk_far ?_ NB117_120.out _;(with_reducible repeat (first|refine zAG ?_ _|refine zAI ?_|refine zAH ?_ _));refine blk_far ?_ NB117_120.out _;(with_reducible repeat (first|refine zAG ?_ _|refine zAI ?_|refine zAH ?_ _));refine blk_far ?_ NB117_120.out _;(with_reducible repeat (first|refine zAG ?_ _|refine zAI ?_|refine zAH ?_ _));refine blk_far ?_ NB117_120.out _;(with_reducible repeat (first|refine zAG ?_ _|refine zAI ?_|refine zAH ?_ _));refine blk_far ?_ NB117_120.out _;(with_reducible repeat (first|refine zAG ?_ _|refine zAI ?_|refine zAH ?_ _));refine blk_far ?_ NB117_120.out _;(with_reducible repeat (first|refine zAG ?_ _|refine zAI ?_|refine zAH ?_ _));exact BK117.out) hb);have n1_:=aK_ (zAX (g:=gb120) (o:=.cells #[.int .i64 ((zAJ l0_3 x21_1).f0),.int .i64 ((zAJ l0_3 x21_1).f1),.int .i64 ((zAJ l0_3 x21_1).f2),.int .i64 ((zAJ l0_3 x21_1).f3),.slice A119_4 ((zAJ l0_3 x21_1).f4).length c119_4,.int .i64 ((zAJ l0_3 x21_1).f5)] 33 (0,0)) (by (with_reducible repeat (first|refine zAG ?_ _|refine zAI ?_|refine zAH ?_ _));refine zAi (cs:=#[.int .i64 ((zAJ l0_3 x21_1).f0),.int .i64 ((zAJ l0_3 x21_1).f1),.int .i64 ((zAJ l0_3 x21_1).f2),.int .i64 ((zAJ l0_3 x21_1).f3),.slice A119_4 ((zAJ l0_3 x21_1).f4).length c119_4,.int .i64 0]) ?_ 5 _ rfl;(with_reducible repeat (first|refine zAG ?_ _|refine zAI ?_|refine zAH ?_ _));refine zAi (cs:=#[.int .i64 ((zAJ l0_3 x21_1).f0),.int .i64 ((zAJ l0_3 x21_1).f1),.int .i64 ((zAJ l0_3 x21_1).f2),.int .i64 ((zAJ l0_3 x21_1).f3),.slice none 0 0,.int .i64 0]) ?_ 4 _ rfl;(with_reducible repeat (first|refine zAG ?_ _|refine zAI ?_|refine zAH ?_ _));refine zAi (cs:=#[.int .i64 ((zAJ l0_3 x21_1).f0),.int .i64 ((zAJ l0_3 x21_1).f1),.int .i64 ((zAJ l0_3 x21_1).f2),.int .i64 0,.slice none 0 0,.int .i64 0]) ?_ 3 _ rfl;(with_reducible repeat (first|refine zAG ?_ _|refine zAI ?_|refine zAH ?_ _));refine zAi (cs:=#[.int .i64 ((zAJ l0_3 x21_1).f0),.int .i64 ((zAJ l0_3 x21_1).f1),.int .i64 0,.int .i64 0,.slice none 0 0,.int .i64 0]) ?_ 2 _ rfl;(with_reducible repeat (first|refine zAG ?_ _|refine zAI ?_|refine zAH ?_ _));refine zAi (cs:=#[.int .i64 ((zAJ l0_3 x21_1).f0),.int .i64 0,.int .i64 0,.int .i64 0,.slice none 0 0,.int .i64 0]) ?_ 1 _ rfl;(with_reducible repeat (first|refine zAG ?_ _|refine zAI ?_|refine zAH ?_ _));refine zAi (cs:=#[.int .i64 0,.int .i64 0,.int .i64 0,.int .i64 0,.slice none 0 0,.int .i64 0]) ?_ 0 _ rfl;(with_reducible repeat (first|refine zAG ?_ _|refine zAI ?_|refine zAH ?_ _));exact BK120.out) hb);have n2_:=aK_ (zAL (by repeat (first|(with_reducible first|exact HB.out|apply zAB|apply zAA|apply zAC|refine zAF ?_ GE117.out|refine zAF ?_ GE120.out)|exact HB.out)) hb);clear BK117;clear BK120;clear HB;have BK117:=n0_;have BK120:=n1_;have HB:=n2_;clear n0_ n1_ n2_;(try clear hb);(try clear hb2);(try clear hk);(try clear hi)))
         go_ret2
         exact ⟨by first|rfl|(simp [zAQ,zAP] <;> rfl)|(simp [*,zAQ,zAP] <;> rfl),by repeat (first|(with_reducible first|exact HB.out|apply zAB|apply zAA|apply zAC|refine zAF ?_ GE117.out|refine zAF ?_ GE120.out)|exact HB.out)⟩
       ·rw [if_neg c15] at H
        exact absurd H (by simp)
      ·rw [if_neg c14] at H
       exact absurd H (by simp)
     ·rw [if_neg c13] at H
      have c13b0:decide (x21_1<(l0_3.length:Int))=false:=decide_eq_false c13
      clear c13
      by_cases c31:x5_1=1
      ·rw [if_pos c31] at H
       have c31b0:(x5_1 == 1)=true:=beq_iff_eq.mpr c31
       have c31b1:(x5_1 != 1)=false:=bne_eq_false_iff_eq.mpr c31
       clear c31
       simp only [Option.some.injEq,Prod.mk.injEq] at H
       obtain ⟨rfl,rfl⟩:=H
       go_wp2
       go_ret2
       exact ⟨by first|rfl|(simp [zAQ,zAP] <;> rfl)|(simp [*,zAQ,zAP] <;> rfl),by repeat (first|(with_reducible first|exact HB.out|apply zAB|apply zAA|apply zAC|refine zAF ?_ GE117.out)|exact HB.out)⟩
      ·rw [if_neg c31] at H
       have c31b0:(x5_1 == 1)=false:=beq_eq_false_iff_ne.mpr c31
       have c31b1:(x5_1 != 1)=true:=bne_iff_ne.mpr c31
       simp only [Option.some.injEq,Prod.mk.injEq] at H
       obtain ⟨rfl,rfl⟩:=H
       have hcz32_0:wr.cell? ⟨gb117,0,none⟩=some (.string a0_0):=(zAE BK117.out 0).trans rfl
       have hcz32_1:wr.cell? ⟨gb117,1,none⟩=some (.slice A0_1 l0_1.length c0_1):=(zAE BK117.out 1).trans rfl
       have hcz32_2:wr.cell? ⟨gb117,2,none⟩=some (.int .i64 a0_2):=(zAE BK117.out 2).trans rfl
       have hcz32_3:wr.cell? ⟨gb117,3,none⟩=some (.slice A0_3 l0_3.length c0_3):=(zAE BK117.out 3).trans rfl
       have hfz32_0:=zAD BK117.out 0
       have hfz32_1:=zAD BK117.out 1
       have hfz32_2:=zAD BK117.out 2
       have hfz32_3:=zAD BK117.out 3
       go_wp2
       go_ret2
       exact ⟨by first|rfl|(simp [zAQ,zAP] <;> rfl)|(simp [*,zAQ,zAP] <;> rfl),by repeat (first|(with_reducible first|exact HB.out|apply zAB|apply zAA|apply zAC|refine zAF ?_ GE117.out)|exact HB.out)⟩
 ·rw [if_neg c3] at H
  have c3b0:(t118 == 0)=false:=beq_eq_false_iff_ne.mpr c3
  have c3b1:(t118 != 0)=true:=bne_iff_ne.mpr c3
  simp only [Option.some.injEq,Prod.mk.injEq] at H
  obtain ⟨rfl,rfl⟩:=H
  go_enter Tryd.func16,Tryd.ntmps16
  go_wp2_with (first|((with_reducible refine zAf (N:=1) rfl ?_);refine zAc ?hg (N:=1) ?hd (cs:=#[.string a0_0,.slice A0_1 l0_1.length c0_1,.int .i64 a0_2,.slice A0_3 l0_3.length c0_3]) (t:=25) ?hr ?_;(case hd=>rfl);(case hg=>rfl);(case hr=>first|(go_simp;done)|(go_simp;rfl));intro gb117 hg w33 hbox hb;have n0_:=aK_ (zAL (by repeat (first|(with_reducible first|exact HB.out|apply zAB|apply zAA|apply zAC)|exact HB.out)) hb);have n1_:=aK_ (hbox);have n2_:=aK_ ((by rw [hg];exact (zAK (by repeat (first|(with_reducible first|exact HB.out|apply zAB|apply zAA|apply zAC)|exact HB.out))):w.heap.size≤gb117));have n3_:=aK_ ((by rw [hg];exact (zAK (by repeat (first|(with_reducible first|exact HB.out|apply zAB|apply zAA|apply zAC)|exact HB.out))):w.heap.size≤gb117));clear HB;have HB:=n0_;have BK117:=n1_;have GW117:=n2_;have GE117:=n3_;clear n0_ n1_ n2_ n3_;clear hb hbox hg;have hcz34_0:w33.cell? ⟨gb117,0,none⟩=some (.string a0_0):=(zAE BK117.out 0).trans rfl;have hcz34_1:w33.cell? ⟨gb117,1,none⟩=some (.slice A0_1 l0_1.length c0_1):=(zAE BK117.out 1).trans rfl;have hcz34_2:w33.cell? ⟨gb117,2,none⟩=some (.int .i64 a0_2):=(zAE BK117.out 2).trans rfl;have hcz34_3:w33.cell? ⟨gb117,3,none⟩=some (.slice A0_3 l0_3.length c0_3):=(zAE BK117.out 3).trans rfl;have hfz34_0:=zAD BK117.out 0;have hfz34_1:=zAD BK117.out 1;have hfz34_2:=zAD BK117.out 2;have hfz34_3:=zAD BK117.out 3)|((with_reducible refine zAb (f:=37) rfl ?_);refine goesL_ (some 10) rfl rfl Tryd.func37 (by kernel_rfl) rfl #[.agg #[.string a0_0,.slice A0_1 l0_1.length c0_1,.int .i64 a0_2,.slice A0_3 l0_3.length c0_3]] rfl (by (try simp only [List.map_toArray,List.map_cons,List.map_nil]);first|done|rfl|(simp only [List.length_drop,List.length_take];rfl)) ?_;(with_reducible refine (tree_head.calls k a0_0 _ _ l0_1 a0_2 _ _ l0_3 t118 _ ?side1 ?side2 ?side3 ?side4 ?side5 A2.out).mono ?_);(case side1=>(first|(with_reducible exact hG)|((repeat (with_reducible first|exact hG|apply GW.drewN|apply GW.drew|apply GW.alloc));done)|exact GW.below hG (by repeat (first|(with_reducible first|exact HB.out|apply zAB|apply zAA|apply zAC|refine zAF ?_ GE117.out)|exact HB.out))));(case side2=>repeat (first|exact (Kd.C_below HR0_1.out HB.out)|(with_reducible refine Kd.C_alloc ?_ _)|(with_reducible refine Kd.C_drewN ?_ _)|(with_reducible refine Kd.C_drew ?_)));(case side3=>exact HC0_1.out);(case side4=>repeat (first|exact (Kd.C_below HR0_3.out HB.out)|(with_reducible refine Kd.C_alloc ?_ _)|(with_reducible refine Kd.C_drewN ?_ _)|(with_reducible refine Kd.C_drew ?_)));(case side5=>exact HC0_3.out);rintro e w35 ⟨rfl,hb⟩;refine ⟨_,rfl,?_⟩;have n0_:=aK_ (zAX (g:=gb117) (o:=.cells #[.string a0_0,.slice A0_1 l0_1.length c0_1,.int .i64 a0_2,.slice A0_3 l0_3.length c0_3] 25 (0,0)) (by (with_reducible repeat (first|refine zAG ?_ _|refine zAI ?_|refine zAH ?_ _));exact BK117.out) hb);have n1_:=aK_ (zAL (by repeat (first|(with_reducible first|exact HB.out|apply zAB|apply zAA|apply zAC|refine zAF ?_ GE117.out)|exact HB.out)) hb);clear BK117;clear HB;have BK117:=n0_;have HB:=n1_;clear n0_ n1_;(try clear hb);(try clear hb2);(try clear hk);(try clear hi)))
  go_ret2
  exact ⟨by first|rfl|(simp [zAQ,zAP] <;> rfl)|(simp [*,zAQ,zAP] <;> rfl),by repeat (first|(with_reducible first|exact HB.out|apply zAB|apply zAA|apply zAC|refine zAF ?_ GE117.out)|exact HB.out)⟩
end Go.Proofs.YthbnigjckjkmnaaDoor.S

namespace Go.Proofs.YthbnigjckjkmnaaDoor.S
open Go.RowKit Go.Proofs.YthbnigjckjkmnaaDoorW.PrintWords Go.Proofs.YthbnigjckjkmnaaDoorW.PrintLast Go.Proofs.YthbnigjckjkmnaaDoorW.PrintMore
attribute [local go_sem] max2_int min2_int max_two min_two max_three min_three max_four min_four
def tree_Firsts.f (k:Nat) (a0_0:ByteArray) (l0_1:List (S47)) (a0_2:Int) (l0_3:List (S33)):Option (List Int × Int):=(zAh.f k a0_0 l0_1 a0_2 l0_3).bind fun bt146=>(if bt146.2=0 then ((tree_firsts.f k a0_0 l0_1 a0_2 l0_3).bind fun t148=>(some (t148,0))) else (some (([]:List Int),bt146.2)))
theorem tree_Firsts.mono:∀ a0 a1 a2 a3 k,LeO (tree_Firsts.f k a0 a1 a2 a3) (tree_Firsts.f (k+1) a0 a1 a2 a3):=by
 intro a0 a1 a2 a3 k
 unfold tree_Firsts.f
 repeat' first
   |(with_reducible exact zAh.mono _ _ _ _ _)
   |(with_reducible exact tree_firsts.mono _ _ _ _ _)
   |(with_reducible exact LeO.refl _)
   |(with_reducible exact LeO.none _)
   |(with_reducible refine LeO.ite ?_ ?_)
   |(with_reducible refine LeO.bind ?_ (fun _=>?_))
   |exact zAh.mono _ _ _ _ _
   |exact tree_firsts.mono _ _ _ _ _
   |exact LeO.none _
   |refine LeO.ite ?_ ?_
   |refine LeO.bind ?_ (fun _=>?_)
set_option maxHeartbeats 8000000 in
set_option maxRecDepth 100000 in
theorem tree_Firsts.calls (k:Nat) (a0_0:ByteArray) (A0_1:Option Addr) (c0_1:Nat) (l0_1:List (S47)) (a0_2:Int) (A0_3:Option Addr) (c0_3:Nat) (l0_3:List (S33)) (r1:List Int) (r2:Int) (w:World) (hG:GW w) (hr0_1:Kd.C k47 w A0_1 l0_1.length l0_1) (hc0_1:l0_1.length≤c0_1) (hr0_3:Kd.C k33 w A0_3 l0_3.length l0_3) (hc0_3:l0_3.length≤c0_3) (h:tree_Firsts.f k a0_0 l0_1 a0_2 l0_3=some (r1,r2)) :
  Calls Tryd.prog 23 #[.agg #[.string a0_0,.slice A0_1 l0_1.length c0_1,.int .i64 a0_2,.slice A0_3 l0_3.length c0_3]] w fun e w'=>∃ v0_:Value,e = .returned (.tuple #[v0_,.int .i64 r2])∧Kd.R (Kd.int .i64) 3 w' w.heap.size (fun _=>True) v0_ r1∧Below w.heap.size w w':=by
 have hu25:=Tryd.underlying25
 have HR0_1:=aK_ hr0_1
 have HC0_1:=aK_ hc0_1
 clear hr0_1 hc0_1
 have HR0_3:=aK_ hr0_3
 have HC0_3:=aK_ hc0_3
 clear hr0_3 hc0_3
 have HB:=aK_ (Below.refl w.heap.size w)
 have H:((zAh.f k a0_0 l0_1 a0_2 l0_3).bind fun bt146=>(if bt146.2=0 then ((tree_firsts.f k a0_0 l0_1 a0_2 l0_3).bind fun t148=>(some (t148,0))) else (some (([]:List Int),bt146.2))))=some (r1,r2):=h
 clear h
 replace H:=Option.bind_eq_some_iff.mp H
 obtain ⟨⟨t146,t147⟩,A20,H⟩:=H
 replace H:(if t147=0 then ((tree_firsts.f k a0_0 l0_1 a0_2 l0_3).bind fun t148=>(some (t148,0))) else (some (([]:List Int),t147)))=some (r1,r2):=H
 have A2:=aK_ A20
 clear A20
 by_cases c3:t147=0
 ·rw [if_pos c3] at H
  have c3b0:(t147 == 0)=true:=beq_iff_eq.mpr c3
  have c3b1:(t147 != 0)=false:=bne_eq_false_iff_eq.mpr c3
  clear c3
  replace H:=Option.bind_eq_some_iff.mp H
  obtain ⟨t148,A40,H⟩:=H
  replace H:(some (t148,0))=some (r1,r2):=H
  have A4:=aK_ A40
  clear A40
  simp only [Option.some.injEq,Prod.mk.injEq] at H
  obtain ⟨rfl,rfl⟩:=H
  go_enter Tryd.func23,Tryd.ntmps23
  go_wp2_with (first|((with_reducible refine zAf (N:=1) rfl ?_);refine zAc ?hg (N:=1) ?hd (cs:=#[.string a0_0,.slice A0_1 l0_1.length c0_1,.int .i64 a0_2,.slice A0_3 l0_3.length c0_3]) (t:=25) ?hr ?_;(case hd=>rfl);(case hg=>rfl);(case hr=>first|(go_simp;done)|(go_simp;rfl));intro gb145 hg w5 hbox hb;have n0_:=aK_ (zAL (by repeat (first|(with_reducible first|exact HB.out|apply zAB|apply zAA|apply zAC)|exact HB.out)) hb);have n1_:=aK_ (hbox);have n2_:=aK_ ((by rw [hg];exact (zAK (by repeat (first|(with_reducible first|exact HB.out|apply zAB|apply zAA|apply zAC)|exact HB.out))):w.heap.size≤gb145));have n3_:=aK_ ((by rw [hg];exact (zAK (by repeat (first|(with_reducible first|exact HB.out|apply zAB|apply zAA|apply zAC)|exact HB.out))):w.heap.size≤gb145));clear HB;have HB:=n0_;have BK145:=n1_;have GW145:=n2_;have GE145:=n3_;clear n0_ n1_ n2_ n3_;clear hb hbox hg;have hcz6_0:w5.cell? ⟨gb145,0,none⟩=some (.string a0_0):=(zAE BK145.out 0).trans rfl;have hcz6_1:w5.cell? ⟨gb145,1,none⟩=some (.slice A0_1 l0_1.length c0_1):=(zAE BK145.out 1).trans rfl;have hcz6_2:w5.cell? ⟨gb145,2,none⟩=some (.int .i64 a0_2):=(zAE BK145.out 2).trans rfl;have hcz6_3:w5.cell? ⟨gb145,3,none⟩=some (.slice A0_3 l0_3.length c0_3):=(zAE BK145.out 3).trans rfl;have hfz6_0:=zAD BK145.out 0;have hfz6_1:=zAD BK145.out 1;have hfz6_2:=zAD BK145.out 2;have hfz6_3:=zAD BK145.out 3)|((with_reducible refine zAb (f:=16) rfl ?_);refine goesL_ (some 8) rfl rfl Tryd.func16 (by kernel_rfl) rfl #[.agg #[.string a0_0,.slice A0_1 l0_1.length c0_1,.int .i64 a0_2,.slice A0_3 l0_3.length c0_3]] rfl (by (try simp only [List.map_toArray,List.map_cons,List.map_nil]);first|done|rfl|(simp only [List.length_drop,List.length_take];rfl)) ?_;(with_reducible refine (zAh.calls k a0_0 _ _ l0_1 a0_2 _ _ l0_3 t146 t147 _ ?side1 ?side2 ?side3 ?side4 ?side5 A2.out).mono ?_);(case side1=>(first|(with_reducible exact hG)|((repeat (with_reducible first|exact hG|apply GW.drewN|apply GW.drew|apply GW.alloc));done)|exact GW.below hG (by repeat (first|(with_reducible first|exact HB.out|apply zAB|apply zAA|apply zAC|refine zAF ?_ GE145.out)|exact HB.out))));(case side2=>repeat (first|exact (Kd.C_below HR0_1.out HB.out)|(with_reducible refine Kd.C_alloc ?_ _)|(with_reducible refine Kd.C_drewN ?_ _)|(with_reducible refine Kd.C_drew ?_)));(case side3=>exact HC0_1.out);(case side4=>repeat (first|exact (Kd.C_below HR0_3.out HB.out)|(with_reducible refine Kd.C_alloc ?_ _)|(with_reducible refine Kd.C_drewN ?_ _)|(with_reducible refine Kd.C_drew ?_)));(case side5=>exact HC0_3.out);rintro e w7 ⟨rfl,hb⟩;refine ⟨_,rfl,?_⟩;have n0_:=aK_ (zAX (g:=gb145) (o:=.cells #[.string a0_0,.slice A0_1 l0_1.length c0_1,.int .i64 a0_2,.slice A0_3 l0_3.length c0_3] 25 (0,0)) (by (with_reducible repeat (first|refine zAG ?_ _|refine zAI ?_|refine zAH ?_ _));exact BK145.out) hb);have n1_:=aK_ (zAL (by repeat (first|(with_reducible first|exact HB.out|apply zAB|apply zAA|apply zAC|refine zAF ?_ GE145.out)|exact HB.out)) hb);clear BK145;clear HB;have BK145:=n0_;have HB:=n1_;clear n0_ n1_;(try clear hb);(try clear hb2);(try clear hk);(try clear hi);have hcz8_0:w7.cell? ⟨gb145,0,none⟩=some (.string a0_0):=(zAE BK145.out 0).trans rfl;have hcz8_1:w7.cell? ⟨gb145,1,none⟩=some (.slice A0_1 l0_1.length c0_1):=(zAE BK145.out 1).trans rfl;have hcz8_2:w7.cell? ⟨gb145,2,none⟩=some (.int .i64 a0_2):=(zAE BK145.out 2).trans rfl;have hcz8_3:w7.cell? ⟨gb145,3,none⟩=some (.slice A0_3 l0_3.length c0_3):=(zAE BK145.out 3).trans rfl;have hfz8_0:=zAD BK145.out 0;have hfz8_1:=zAD BK145.out 1;have hfz8_2:=zAD BK145.out 2;have hfz8_3:=zAD BK145.out 3)|((with_reducible refine zAb (f:=51) rfl ?_);refine goesL_ (some 15) rfl rfl Tryd.func51 (by kernel_rfl) rfl #[.agg #[.string a0_0,.slice A0_1 l0_1.length c0_1,.int .i64 a0_2,.slice A0_3 l0_3.length c0_3]] rfl (by (try simp only [List.map_toArray,List.map_cons,List.map_nil]);first|done|rfl|(simp only [List.length_drop,List.length_take];rfl)) ?_;(with_reducible refine (tree_firsts.calls k a0_0 _ _ l0_1 a0_2 _ _ l0_3 t148 _ ?side1 ?side2 ?side3 ?side4 ?side5 A4.out).mono ?_);(case side1=>(first|(with_reducible exact hG)|((repeat (with_reducible first|exact hG|apply GW.drewN|apply GW.drew|apply GW.alloc));done)|exact GW.below hG (by repeat (first|(with_reducible first|exact HB.out|apply zAB|apply zAA|apply zAC|refine zAF ?_ GE145.out)|exact HB.out))));(case side2=>repeat (first|exact (Kd.C_below HR0_1.out HB.out)|(with_reducible refine Kd.C_alloc ?_ _)|(with_reducible refine Kd.C_drewN ?_ _)|(with_reducible refine Kd.C_drew ?_)));(case side3=>exact HC0_1.out);(case side4=>repeat (first|exact (Kd.C_below HR0_3.out HB.out)|(with_reducible refine Kd.C_alloc ?_ _)|(with_reducible refine Kd.C_drewN ?_ _)|(with_reducible refine Kd.C_drew ?_)));(case side5=>exact HC0_3.out);rintro e w9 ⟨v149,rfl,ho0,hb⟩;refine ⟨_,rfl,?_⟩;have n0_:=aK_ (Kd.R_lower ho0 (zAK (by repeat (first|(with_reducible first|exact HB.out|apply zAB|apply zAA|apply zAC|refine zAF ?_ GE145.out)|exact HB.out))));have n1_:=aK_ (zAX (g:=gb145) (o:=.cells #[.string a0_0,.slice A0_1 l0_1.length c0_1,.int .i64 a0_2,.slice A0_3 l0_3.length c0_3] 25 (0,0)) (by (with_reducible repeat (first|refine zAG ?_ _|refine zAI ?_|refine zAH ?_ _));exact BK145.out) hb);have n2_:=aK_ (zAL (by repeat (first|(with_reducible first|exact HB.out|apply zAB|apply zAA|apply zAC|refine zAF ?_ GE145.out)|exact HB.out)) hb);clear BK145;clear HB;have HO150:=n0_;have BK145:=n1_;have HB:=n2_;clear n0_ n1_ n2_;(try clear hb);(try clear hb2);(try clear hk);(try clear hi);(try clear ho0)))
  go_ret2
  exact ⟨_,by first|rfl|(simp [zAQ,zAP] <;> rfl)|(simp [*,zAQ,zAP] <;> rfl),by (with_reducible repeat (first|apply Kd.R_alloc|apply Kd.R_drewN|apply Kd.R_drew));exact HO150.out,by repeat (first|(with_reducible first|exact HB.out|apply zAB|apply zAA|apply zAC|refine zAF ?_ GE145.out)|exact HB.out)⟩
 ·rw [if_neg c3] at H
  have c3b0:(t147 == 0)=false:=beq_eq_false_iff_ne.mpr c3
  have c3b1:(t147 != 0)=true:=bne_iff_ne.mpr c3
  simp only [Option.some.injEq,Prod.mk.injEq] at H
  obtain ⟨rfl,rfl⟩:=H
  go_enter Tryd.func23,Tryd.ntmps23
  go_wp2_with (first|((with_reducible refine zAf (N:=1) rfl ?_);refine zAc ?hg (N:=1) ?hd (cs:=#[.string a0_0,.slice A0_1 l0_1.length c0_1,.int .i64 a0_2,.slice A0_3 l0_3.length c0_3]) (t:=25) ?hr ?_;(case hd=>rfl);(case hg=>rfl);(case hr=>first|(go_simp;done)|(go_simp;rfl));intro gb145 hg w10 hbox hb;have n0_:=aK_ (zAL (by repeat (first|(with_reducible first|exact HB.out|apply zAB|apply zAA|apply zAC)|exact HB.out)) hb);have n1_:=aK_ (hbox);have n2_:=aK_ ((by rw [hg];exact (zAK (by repeat (first|(with_reducible first|exact HB.out|apply zAB|apply zAA|apply zAC)|exact HB.out))):w.heap.size≤gb145));have n3_:=aK_ ((by rw [hg];exact (zAK (by repeat (first|(with_reducible first|exact HB.out|apply zAB|apply zAA|apply zAC)|exact HB.out))):w.heap.size≤gb145));clear HB;have HB:=n0_;have BK145:=n1_;have GW145:=n2_;have GE145:=n3_;clear n0_ n1_ n2_ n3_;clear hb hbox hg;have hcz11_0:w10.cell? ⟨gb145,0,none⟩=some (.string a0_0):=(zAE BK145.out 0).trans rfl;have hcz11_1:w10.cell? ⟨gb145,1,none⟩=some (.slice A0_1 l0_1.length c0_1):=(zAE BK145.out 1).trans rfl;have hcz11_2:w10.cell? ⟨gb145,2,none⟩=some (.int .i64 a0_2):=(zAE BK145.out 2).trans rfl;have hcz11_3:w10.cell? ⟨gb145,3,none⟩=some (.slice A0_3 l0_3.length c0_3):=(zAE BK145.out 3).trans rfl;have hfz11_0:=zAD BK145.out 0;have hfz11_1:=zAD BK145.out 1;have hfz11_2:=zAD BK145.out 2;have hfz11_3:=zAD BK145.out 3)|((with_reducible refine zAb (f:=16) rfl ?_);refine goesL_ (some 8) rfl rfl Tryd.func16 (by kernel_rfl) rfl #[.agg #[.string a0_0,.slice A0_1 l0_1.length c0_1,.int .i64 a0_2,.slice A0_3 l0_3.length c0_3]] rfl (by (try simp only [List.map_toArray,List.map_cons,List.map_nil]);first|done|rfl|(simp only [List.length_drop,List.length_take];rfl)) ?_;(with_reducible refine (zAh.calls k a0_0 _ _ l0_1 a0_2 _ _ l0_3 t146 t147 _ ?side1 ?side2 ?side3 ?side4 ?side5 A2.out).mono ?_);(case side1=>(first|(with_reducible exact hG)|((repeat (with_reducible first|exact hG|apply GW.drewN|apply GW.drew|apply GW.alloc));done)|exact GW.below hG (by repeat (first|(with_reducible first|exact HB.out|apply zAB|apply zAA|apply zAC|refine zAF ?_ GE145.out)|exact HB.out))));(case side2=>repeat (first|exact (Kd.C_below HR0_1.out HB.out)|(with_reducible refine Kd.C_alloc ?_ _)|(with_reducible refine Kd.C_drewN ?_ _)|(with_reducible refine Kd.C_drew ?_)));(case side3=>exact HC0_1.out);(case side4=>repeat (first|exact (Kd.C_below HR0_3.out HB.out)|(with_reducible refine Kd.C_alloc ?_ _)|(with_reducible refine Kd.C_drewN ?_ _)|(with_reducible refine Kd.C_drew ?_)));(case side5=>exact HC0_3.out);rintro e w12 ⟨rfl,hb⟩;refine ⟨_,rfl,?_⟩;have n0_:=aK_ (zAX (g:=gb145) (o:=.cells #[.string a0_0,.slice A0_1 l0_1.length c0_1,.int .i64 a0_2,.slice A0_3 l0_3.length c0_3] 25 (0,0)) (by (with_reducible repeat (first|refine zAG ?_ _|refine zAI ?_|refine zAH ?_ _));exact BK145.out) hb);have n1_:=aK_ (zAL (by repeat (first|(with_reducible first|exact HB.out|apply zAB|apply zAA|apply zAC|refine zAF ?_ GE145.out)|exact HB.out)) hb);clear BK145;clear HB;have BK145:=n0_;have HB:=n1_;clear n0_ n1_;(try clear hb);(try clear hb2);(try clear hk);(try clear hi)))
  go_ret2
  exact ⟨_,by first|rfl|(simp [zAQ,zAP] <;> rfl)|(simp [*,zAQ,zAP] <;> rfl),by first|exact Kd.R_nil _ _ _ _ _|exact Kd.N_nil _ _ _ _ _|exact Kd.V_nil _ _ _ _ _|exact Kd.Q_nil _ _ _ _ _|exact Kd.S_nil _ _ _ _ _,by repeat (first|(with_reducible first|exact HB.out|apply zAB|apply zAA|apply zAC|refine zAF ?_ GE145.out)|exact HB.out)⟩
end Go.Proofs.YthbnigjckjkmnaaDoor.S

namespace Go.Proofs.YthbnigjckjkmnaaDoor.S
open Go.RowKit Go.Proofs.YthbnigjckjkmnaaDoorW.PrintWords Go.Proofs.YthbnigjckjkmnaaDoorW.PrintLast Go.Proofs.YthbnigjckjkmnaaDoorW.PrintMore
attribute [local go_sem] max2_int min2_int max_two min_two max_three min_three max_four min_four
def octroilaw05_awake.f (k:Nat)  : Option (Bool):=(octroilaw05_five.f).bind fun bt160=>((zAh.f k bt160.1 bt160.2.1 bt160.2.2.1 bt160.2.2.2).bind fun bt169=>((tree_Firsts.f k bt160.1 bt160.2.1 bt160.2.2.1 bt160.2.2.2).bind fun bt171=>((zAh.f k (⟨#[112,108,97,110]⟩:ByteArray) ([]:List (S47)) 0 ([]:List (S33))).bind fun bt175=>(if bt169.1=0 then (if bt169.2=0 then (if bt171.2=0 then ((zAe.f k bt171.1 (([0,1,0,3,0]:List Int))).bind fun t180=>(if t180=true then (if bt175.2=61 then ((tree_Same.f k bt160.1 bt160.2.1 bt160.2.2.1 bt160.2.2.2 bt160.1 bt160.2.1 bt160.2.2.1 bt160.2.2.2).bind fun t181=>(some t181)) else (some false)) else (some false))) else (some false)) else (some false)) else (some false)))))
theorem octroilaw05_awake.mono:∀ k,LeO (octroilaw05_awake.f k ) (octroilaw05_awake.f (k+1) ):=by
 intro  k
 unfold octroilaw05_awake.f
 repeat' first
   |(with_reducible exact zAe.mono _ _ _)
   |(with_reducible exact zAh.mono _ _ _ _ _)
   |(with_reducible exact tree_Firsts.mono _ _ _ _ _)
   |(with_reducible exact tree_Same.mono _ _ _ _ _ _ _ _ _)
   |(with_reducible exact LeO.refl _)
   |(with_reducible exact LeO.none _)
   |(with_reducible refine LeO.ite ?_ ?_)
   |(with_reducible refine LeO.bind ?_ (fun _=>?_))
   |exact zAe.mono _ _ _
   |exact zAh.mono _ _ _ _ _
   |exact tree_Firsts.mono _ _ _ _ _
   |exact tree_Same.mono _ _ _ _ _ _ _ _ _
   |exact LeO.none _
   |refine LeO.ite ?_ ?_
   |refine LeO.bind ?_ (fun _=>?_)
set_option maxHeartbeats 8000000 in
set_option maxRecDepth 100000 in
theorem octroilaw05_awake.calls (k:Nat)  (r:Bool) (w:World) (hG:GW w) (h:octroilaw05_awake.f k  = some r) :
  Calls Tryd.prog 15 #[] w fun e w'=>e = .returned (.bool r)∧Below w.heap.size w w':=by
 have hu25:=Tryd.underlying25
 have HB:=aK_ (Below.refl w.heap.size w)
 have H:((octroilaw05_five.f).bind fun bt160=>((zAh.f k bt160.1 bt160.2.1 bt160.2.2.1 bt160.2.2.2).bind fun bt169=>((tree_Firsts.f k bt160.1 bt160.2.1 bt160.2.2.1 bt160.2.2.2).bind fun bt171=>((zAh.f k (⟨#[112,108,97,110]⟩:ByteArray) ([]:List (S47)) 0 ([]:List (S33))).bind fun bt175=>(if bt169.1=0 then (if bt169.2=0 then (if bt171.2=0 then ((zAe.f k bt171.1 (([0,1,0,3,0]:List Int))).bind fun t180=>(if t180=true then (if bt175.2=61 then ((tree_Same.f k bt160.1 bt160.2.1 bt160.2.2.1 bt160.2.2.2 bt160.1 bt160.2.1 bt160.2.2.1 bt160.2.2.2).bind fun t181=>(some t181)) else (some false)) else (some false))) else (some false)) else (some false)) else (some false))))))=some r:=h
 clear h
 replace H:=Option.bind_eq_some_iff.mp H
 obtain ⟨⟨t160,t161,t164,t165⟩,A10,H⟩:=H
 replace H:((zAh.f k t160 t161 t164 t165).bind fun bt169=>((tree_Firsts.f k t160 t161 t164 t165).bind fun bt171=>((zAh.f k (⟨#[112,108,97,110]⟩:ByteArray) ([]:List (S47)) 0 ([]:List (S33))).bind fun bt175=>(if bt169.1=0 then (if bt169.2=0 then (if bt171.2=0 then ((zAe.f k bt171.1 (([0,1,0,3,0]:List Int))).bind fun t180=>(if t180=true then (if bt175.2=61 then ((tree_Same.f k t160 t161 t164 t165 t160 t161 t164 t165).bind fun t181=>(some t181)) else (some false)) else (some false))) else (some false)) else (some false)) else (some false)))))=some r:=H
 have A1:=aK_ A10
 clear A10
 replace H:=Option.bind_eq_some_iff.mp H
 obtain ⟨⟨t169,t170⟩,A20,H⟩:=H
 replace H:((tree_Firsts.f k t160 t161 t164 t165).bind fun bt171=>((zAh.f k (⟨#[112,108,97,110]⟩:ByteArray) ([]:List (S47)) 0 ([]:List (S33))).bind fun bt175=>(if t169=0 then (if t170=0 then (if bt171.2=0 then ((zAe.f k bt171.1 (([0,1,0,3,0]:List Int))).bind fun t180=>(if t180=true then (if bt175.2=61 then ((tree_Same.f k t160 t161 t164 t165 t160 t161 t164 t165).bind fun t181=>(some t181)) else (some false)) else (some false))) else (some false)) else (some false)) else (some false))))=some r:=H
 have A2:=aK_ A20
 clear A20
 replace H:=Option.bind_eq_some_iff.mp H
 obtain ⟨⟨t171,t174⟩,A30,H⟩:=H
 replace H:((zAh.f k (⟨#[112,108,97,110]⟩:ByteArray) ([]:List (S47)) 0 ([]:List (S33))).bind fun bt175=>(if t169=0 then (if t170=0 then (if t174=0 then ((zAe.f k t171 (([0,1,0,3,0]:List Int))).bind fun t180=>(if t180=true then (if bt175.2=61 then ((tree_Same.f k t160 t161 t164 t165 t160 t161 t164 t165).bind fun t181=>(some t181)) else (some false)) else (some false))) else (some false)) else (some false)) else (some false)))=some r:=H
 have A3:=aK_ A30
 clear A30
 replace H:=Option.bind_eq_some_iff.mp H
 obtain ⟨⟨t175,t176⟩,A40,H⟩:=H
 replace H:(if t169=0 then (if t170=0 then (if t174=0 then ((zAe.f k t171 (([0,1,0,3,0]:List Int))).bind fun t180=>(if t180=true then (if t176=61 then ((tree_Same.f k t160 t161 t164 t165 t160 t161 t164 t165).bind fun t181=>(some t181)) else (some false)) else (some false))) else (some false)) else (some false)) else (some false))=some r:=H
 have A4:=aK_ A40
 clear A40
 by_cases c5:t169=0
 ·rw [if_pos c5] at H
  have c5b0:(t169 == 0)=true:=beq_iff_eq.mpr c5
  have c5b1:(t169 != 0)=false:=bne_eq_false_iff_eq.mpr c5
  clear c5
  by_cases c6:t170=0
  ·rw [if_pos c6] at H
   have c6b0:(t170 == 0)=true:=beq_iff_eq.mpr c6
   have c6b1:(t170 != 0)=false:=bne_eq_false_iff_eq.mpr c6
   clear c6
   by_cases c7:t174=0
   ·rw [if_pos c7] at H
    have c7b0:(t174 == 0)=true:=beq_iff_eq.mpr c7
    have c7b1:(t174 != 0)=false:=bne_eq_false_iff_eq.mpr c7
    clear c7
    obtain ⟨y177,hy177⟩:∃ y_:List Int,y_=(([0,1,0,3,0]:List Int)):=⟨_,rfl⟩
    replace H:((zAe.f k t171 y177).bind fun t180=>(if t180=true then (if t176=61 then ((tree_Same.f k t160 t161 t164 t165 t160 t161 t164 t165).bind fun t181=>(some t181)) else (some false)) else (some false)))=some r:=by first|(rw [hy177];with_reducible exact H)|(have H2_:=(Option.bind_some _ _).symm.trans H;rw [hy177];with_reducible exact H2_)|(have H2_:=(Option.bind_some _ _).symm.trans H;with_reducible exact H2_)|with_reducible exact H|(rw [hy177];exact H)|exact H
    have Ny177:=aK_ hy177
    clear hy177
    replace H:=Option.bind_eq_some_iff.mp H
    obtain ⟨t180,A80,H⟩:=H
    replace H:(if t180=true then (if t176=61 then ((tree_Same.f k t160 t161 t164 t165 t160 t161 t164 t165).bind fun t181=>(some t181)) else (some false)) else (some false))=some r:=H
    have A8:=aK_ A80
    clear A80
    by_cases c9:t180=true
    ·subst c9
     have H1:(if t176=61 then ((tree_Same.f k t160 t161 t164 t165 t160 t161 t164 t165).bind fun t181=>(some t181)) else (some false))=some r:=by rw [if_pos rfl] at H;exact H
     clear H
     have H:=H1
     clear H1
     by_cases c10:t176=61
     ·rw [if_pos c10] at H
      have c10b0:(t176 == 61)=true:=beq_iff_eq.mpr c10
      have c10b1:(t176 != 61)=false:=bne_eq_false_iff_eq.mpr c10
      clear c10
      replace H:=Option.bind_eq_some_iff.mp H
      obtain ⟨t181,A110,H⟩:=H
      replace H:(some t181)=some r:=H
      have A11:=aK_ A110
      clear A110
      obtain rfl:=Option.some.inj H
      go_enter Tryd.func15,Tryd.ntmps15
      go_wp2_with (first|((with_reducible refine zAb (f:=36) rfl ?_);refine goesL_ (some 8) rfl rfl Tryd.func36 (by kernel_rfl) rfl #[] rfl (by (try simp only [List.map_toArray,List.map_cons,List.map_nil]);first|done|rfl|(simp only [List.length_drop,List.length_take];rfl)) ?_;(with_reducible refine (octroilaw05_five.calls  t160 t161 t164 t165 _ A1.out).mono ?_);rintro e w12 ⟨v162,v166,rfl,ho0,ho1,hb⟩;refine ⟨_,rfl,?_⟩;have n0_:=aK_ (Kd.R_lower ho0 (zAK (by repeat (first|(with_reducible first|exact HB.out|apply zAB|apply zAA|apply zAC)|exact HB.out))));have n1_:=aK_ (Kd.S_lower ho1 (zAK (by repeat (first|(with_reducible first|exact HB.out|apply zAB|apply zAA|apply zAC)|exact HB.out))));have n2_:=aK_ (zAL (by repeat (first|(with_reducible first|exact HB.out|apply zAB|apply zAA|apply zAC)|exact HB.out)) hb);clear HB;have HO163:=n0_;have HO167:=n1_;have HB:=n2_;clear n0_ n1_ n2_;(try clear hb);(try clear hb2);(try clear hk);(try clear hi);(try clear ho0);(try clear ho1))|((with_reducible refine zAf (N:=1) rfl ?_);(try (refine gate_guard (by rfl) ?_;dsimp only));refine zAc ?hg (N:=1) ?hd (cs:=#[.string (⟨#[]⟩:ByteArray),.slice none 0 0,.int .i64 0,.slice none 0 0]) (t:=25) ?hr ?_;(case hd=>rfl);(case hg=>rfl);(case hr=>first|(go_simp;done)|(go_simp;rfl));intro gb168 hg w13 hbox hb;have n0_:=aK_ (Kd.R_below (by (with_reducible repeat (first|apply Kd.R_alloc|apply Kd.R_drewN|apply Kd.R_drew));exact HO163.out) hb);have n1_:=aK_ (Kd.S_below (by (with_reducible repeat (first|apply Kd.S_alloc|apply Kd.S_drewN|apply Kd.S_drew));exact HO167.out) hb);have n2_:=aK_ (zAL (by repeat (first|(with_reducible first|exact HB.out|apply zAB|apply zAA|apply zAC)|exact HB.out)) hb);have n3_:=aK_ (hbox);have n4_:=aK_ ((by rw [hg];exact (zAK (by repeat (first|(with_reducible first|exact HB.out|apply zAB|apply zAA|apply zAC)|exact HB.out))):w.heap.size≤gb168));have n5_:=aK_ ((by rw [hg];exact (zAK (by repeat (first|(with_reducible first|exact HB.out|apply zAB|apply zAA|apply zAC)|exact HB.out))):w.heap.size≤gb168));clear HO163;clear HO167;clear HB;have HO163:=n0_;have HO167:=n1_;have HB:=n2_;have BK168:=n3_;have GW168:=n4_;have GE168:=n5_;clear n0_ n1_ n2_ n3_ n4_ n5_;clear hb hbox hg;have hcz14_0:w13.cell? ⟨gb168,0,none⟩=some (.string (⟨#[]⟩:ByteArray)):=(zAE BK168.out 0).trans rfl;have hcz14_1:w13.cell? ⟨gb168,1,none⟩=some (.slice none 0 0):=(zAE BK168.out 1).trans rfl;have hcz14_2:w13.cell? ⟨gb168,2,none⟩=some (.int .i64 0):=(zAE BK168.out 2).trans rfl;have hcz14_3:w13.cell? ⟨gb168,3,none⟩=some (.slice none 0 0):=(zAE BK168.out 3).trans rfl;have hfz14_0:=zAD BK168.out 0;have hfz14_1:=zAD BK168.out 1;have hfz14_2:=zAD BK168.out 2;have hfz14_3:=zAD BK168.out 3;obtain ⟨Ao15,co15,eo15⟩:=Kd.R_slice HO163.out;subst eo15;obtain ⟨Ao16,co16,eo16⟩:=Kd.S_slice HO167.out;subst eo16)|((with_reducible refine zAb (f:=16) rfl ?_);refine goesL_ (some 11) rfl rfl Tryd.func16 (by kernel_rfl) rfl #[.agg #[.string t160,.slice Ao15 t161.length co15,.int .i64 t164,.slice Ao16 t165.length co16]] rfl (by (try simp only [List.map_toArray,List.map_cons,List.map_nil]);first|done|rfl|(simp only [List.length_drop,List.length_take];rfl)) ?_;(with_reducible refine (zAh.calls k t160 _ _ t161 t164 _ _ t165 t169 t170 _ ?side1 ?side2 ?side3 ?side4 ?side5 A2.out).mono ?_);(case side1=>(first|(with_reducible exact hG)|((repeat (with_reducible first|exact hG|apply GW.drewN|apply GW.drew|apply GW.alloc));done)|exact GW.below hG (by repeat (first|(with_reducible first|exact HB.out|apply zAB|apply zAA|apply zAC|refine zAF ?_ GE168.out)|exact HB.out))));(case side2=>refine (Kd.R_reads' (e:=47) (base:=w.heap.size) (ok:=fun k_=>True) (n:=t161.length) (c:=co15) ?_).2.2;exact (by (with_reducible repeat (first|apply Kd.R_alloc|apply Kd.R_drewN|apply Kd.R_drew));exact (Kd.R_mono (Kd.R_far (p:=⟨gb168,3,none⟩) (Kd.R_far (p:=⟨gb168,2,none⟩) (Kd.R_far (p:=⟨gb168,1,none⟩) (Kd.R_far (p:=⟨gb168,0,none⟩) (Kd.R_types HO163.out BK168.out (by decide)) (fun _ hk=>hk.2) (.string t160)) (fun _ hk=>hk.2) (.slice Ao15 t161.length co15)) (fun _ hk=>hk.2) (.int .i64 t164)) (fun _ hk=>hk.2) (.slice Ao16 t165.length co16)) (fun _ h_=>h_.1))));(case side3=>exact (Kd.R_reads' HO163.out).2.1);(case side4=>refine (Kd.S_reads' (e:=33) (base:=w.heap.size) (ok:=fun k_=>True) (n:=t165.length) (c:=co16) ?_).2.2;exact (by (with_reducible repeat (first|apply Kd.S_alloc|apply Kd.S_drewN|apply Kd.S_drew));exact (Kd.S_mono (Kd.S_far (p:=⟨gb168,3,none⟩) (Kd.S_far (p:=⟨gb168,2,none⟩) (Kd.S_far (p:=⟨gb168,1,none⟩) (Kd.S_far (p:=⟨gb168,0,none⟩) (Kd.S_types HO167.out BK168.out (by decide)) (fun _ hk=>hk.2) (.string t160)) (fun _ hk=>hk.2) (.slice Ao15 t161.length co15)) (fun _ hk=>hk.2) (.int .i64 t164)) (fun _ hk=>hk.2) (.slice Ao16 t165.length co16)) (fun _ h_=>h_.1))));(case side5=>exact (Kd.S_reads' HO167.out).2.1);rintro e w17 ⟨rfl,hb⟩;refine ⟨_,rfl,?_⟩;have n0_:=aK_ (Kd.R_below (by (with_reducible repeat (first|apply Kd.R_alloc|apply Kd.R_drewN|apply Kd.R_drew));exact (Kd.R_mono (Kd.R_far (p:=⟨gb168,3,none⟩) (Kd.R_far (p:=⟨gb168,2,none⟩) (Kd.R_far (p:=⟨gb168,1,none⟩) (Kd.R_far (p:=⟨gb168,0,none⟩) (Kd.R_types HO163.out BK168.out (by decide)) (fun _ hk=>hk.2) (.string t160)) (fun _ hk=>hk.2) (.slice Ao15 t161.length co15)) (fun _ hk=>hk.2) (.int .i64 t164)) (fun _ hk=>hk.2) (.slice Ao16 t165.length co16)) (fun _ h_=>h_.1))) hb);have n1_:=aK_ (Kd.S_below (by (with_reducible repeat (first|apply Kd.S_alloc|apply Kd.S_drewN|apply Kd.S_drew));exact (Kd.S_mono (Kd.S_far (p:=⟨gb168,3,none⟩) (Kd.S_far (p:=⟨gb168,2,none⟩) (Kd.S_far (p:=⟨gb168,1,none⟩) (Kd.S_far (p:=⟨gb168,0,none⟩) (Kd.S_types HO167.out BK168.out (by decide)) (fun _ hk=>hk.2) (.string t160)) (fun _ hk=>hk.2) (.slice Ao15 t161.length co15)) (fun _ hk=>hk.2) (.int .i64 t164)) (fun _ hk=>hk.2) (.slice Ao16 t165.length co16)) (fun _ h_=>h_.1))) hb);have n2_:=aK_ (zAX (g:=gb168) (o:=.cells #[.string t160,.slice Ao15 t161.length co15,.int .i64 t164,.slice Ao16 t165.length co16] 25 (0,0)) (by (with_reducible repeat (first|refine zAG ?_ _|refine zAI ?_|refine zAH ?_ _));refine zAi (cs:=#[.string t160,.slice Ao15 t161.length co15,.int .i64 t164,.slice none 0 0]) ?_ 3 _ rfl;(with_reducible repeat (first|refine zAG ?_ _|refine zAI ?_|refine zAH ?_ _));refine zAi (cs:=#[.string t160,.slice Ao15 t161.length co15,.int .i64 0,.slice none 0 0]) ?_ 2 _ rfl;(with_reducible repeat (first|refine zAG ?_ _|refine zAI ?_|refine zAH ?_ _));refine zAi (cs:=#[.string t160,.slice none 0 0,.int .i64 0,.slice none 0 0]) ?_ 1 _ rfl;(with_reducible repeat (first|refine zAG ?_ _|refine zAI ?_|refine zAH ?_ _));refine zAi (cs:=#[.string (⟨#[]⟩:ByteArray),.slice none 0 0,.int .i64 0,.slice none 0 0]) ?_ 0 _ rfl;(with_reducible repeat (first|refine zAG ?_ _|refine zAI ?_|refine zAH ?_ _));exact BK168.out) hb);have n3_:=aK_ (zAL (by repeat (first|(with_reducible first|exact HB.out|apply zAB|apply zAA|apply zAC|refine zAF ?_ GE168.out)|exact HB.out)) hb);clear HO163;clear HO167;clear BK168;clear HB;have HO163:=n0_;have HO167:=n1_;have BK168:=n2_;have HB:=n3_;clear n0_ n1_ n2_ n3_;(try clear hb);(try clear hb2);(try clear hk);(try clear hi);have hcz18_0:w17.cell? ⟨gb168,0,none⟩=some (.string t160):=(zAE BK168.out 0).trans rfl;have hcz18_1:w17.cell? ⟨gb168,1,none⟩=some (.slice Ao15 t161.length co15):=(zAE BK168.out 1).trans rfl;have hcz18_2:w17.cell? ⟨gb168,2,none⟩=some (.int .i64 t164):=(zAE BK168.out 2).trans rfl;have hcz18_3:w17.cell? ⟨gb168,3,none⟩=some (.slice Ao16 t165.length co16):=(zAE BK168.out 3).trans rfl;have hfz18_0:=zAD BK168.out 0;have hfz18_1:=zAD BK168.out 1;have hfz18_2:=zAD BK168.out 2;have hfz18_3:=zAD BK168.out 3)|((with_reducible refine zAb (f:=23) rfl ?_);refine goesL_ (some 16) rfl rfl Tryd.func23 (by kernel_rfl) rfl #[.agg #[.string t160,.slice Ao15 t161.length co15,.int .i64 t164,.slice Ao16 t165.length co16]] rfl (by (try simp only [List.map_toArray,List.map_cons,List.map_nil]);first|done|rfl|(simp only [List.length_drop,List.length_take];rfl)) ?_;(with_reducible refine (tree_Firsts.calls k t160 _ _ t161 t164 _ _ t165 t171 t174 _ ?side1 ?side2 ?side3 ?side4 ?side5 A3.out).mono ?_);(case side1=>(first|(with_reducible exact hG)|((repeat (with_reducible first|exact hG|apply GW.drewN|apply GW.drew|apply GW.alloc));done)|exact GW.below hG (by repeat (first|(with_reducible first|exact HB.out|apply zAB|apply zAA|apply zAC|refine zAF ?_ GE168.out)|exact HB.out))));(case side2=>repeat (first|exact (Kd.R_reads' HO163.out).2.2|(with_reducible refine Kd.C_alloc ?_ _)|(with_reducible refine Kd.C_drewN ?_ _)|(with_reducible refine Kd.C_drew ?_)));(case side3=>exact (Kd.R_reads' HO163.out).2.1);(case side4=>repeat (first|exact (Kd.S_reads' HO167.out).2.2|(with_reducible refine Kd.C_alloc ?_ _)|(with_reducible refine Kd.C_drewN ?_ _)|(with_reducible refine Kd.C_drew ?_)));(case side5=>exact (Kd.S_reads' HO167.out).2.1);rintro e w19 ⟨v172,rfl,ho0,hb⟩;refine ⟨_,rfl,?_⟩;have n0_:=aK_ (Kd.R_below (by (with_reducible repeat (first|apply Kd.R_alloc|apply Kd.R_drewN|apply Kd.R_drew));exact HO163.out) hb);have n1_:=aK_ (Kd.S_below (by (with_reducible repeat (first|apply Kd.S_alloc|apply Kd.S_drewN|apply Kd.S_drew));exact HO167.out) hb);have n2_:=aK_ (Kd.R_lower ho0 (zAK (by repeat (first|(with_reducible first|exact HB.out|apply zAB|apply zAA|apply zAC|refine zAF ?_ GE168.out)|exact HB.out))));have n3_:=aK_ (zAX (g:=gb168) (o:=.cells #[.string t160,.slice Ao15 t161.length co15,.int .i64 t164,.slice Ao16 t165.length co16] 25 (0,0)) (by (with_reducible repeat (first|refine zAG ?_ _|refine zAI ?_|refine zAH ?_ _));exact BK168.out) hb);have n4_:=aK_ (zAL (by repeat (first|(with_reducible first|exact HB.out|apply zAB|apply zAA|apply zAC|refine zAF ?_ GE168.out)|exact HB.out)) hb);clear HO163;clear HO167;clear BK168;clear HB;have HO163:=n0_;have HO167:=n1_;have HO173:=n2_;have BK168:=n3_;have HB:=n4_;clear n0_ n1_ n2_ n3_ n4_;(try clear hb);(try clear hb2);(try clear hk);(try clear hi);(try clear ho0))|((with_reducible refine zAb (f:=16) rfl ?_);refine goesL_ (some 21) rfl rfl Tryd.func16 (by kernel_rfl) rfl #[.agg #[.string (⟨#[112,108,97,110]⟩:ByteArray),.slice none 0 0,.int .i64 0,.slice none 0 0]] rfl (by (try simp only [List.map_toArray,List.map_cons,List.map_nil]);first|done|rfl|(simp only [List.length_drop,List.length_take];rfl)) ?_;(refine (zAh.calls k (⟨#[112,108,97,110]⟩:ByteArray) _ _ ([]:List (S47)) 0 _ _ ([]:List (S33)) t175 t176 _ ?side1 ?side2 ?side3 ?side4 ?side5 A4.out).mono ?_);(case side1=>(first|(with_reducible exact hG)|((repeat (with_reducible first|exact hG|apply GW.drewN|apply GW.drew|apply GW.alloc));done)|exact GW.below hG (by repeat (first|(with_reducible first|exact HB.out|apply zAB|apply zAA|apply zAC|refine zAF ?_ GE168.out)|exact HB.out))));(case side2=>exact Kd.C_nil _ _);(case side3=>exact Nat.le_refl _);(case side4=>exact Kd.C_nil _ _);(case side5=>exact Nat.le_refl _);rintro e w20 ⟨rfl,hb⟩;refine ⟨_,rfl,?_⟩;have n0_:=aK_ (Kd.R_below (by (with_reducible repeat (first|apply Kd.R_alloc|apply Kd.R_drewN|apply Kd.R_drew));exact HO163.out) hb);have n1_:=aK_ (Kd.S_below (by (with_reducible repeat (first|apply Kd.S_alloc|apply Kd.S_drewN|apply Kd.S_drew));exact HO167.out) hb);have n2_:=aK_ (Kd.R_below (by (with_reducible repeat (first|apply Kd.R_alloc|apply Kd.R_drewN|apply Kd.R_drew));exact HO173.out) hb);have n3_:=aK_ (zAX (g:=gb168) (o:=.cells #[.string t160,.slice Ao15 t161.length co15,.int .i64 t164,.slice Ao16 t165.length co16] 25 (0,0)) (by (with_reducible repeat (first|refine zAG ?_ _|refine zAI ?_|refine zAH ?_ _));exact BK168.out) hb);have n4_:=aK_ (zAL (by repeat (first|(with_reducible first|exact HB.out|apply zAB|apply zAA|apply zAC|refine zAF ?_ GE168.out)|exact HB.out)) hb);clear HO163;clear HO167;clear HO173;clear BK168;clear HB;have HO163:=n0_;have HO167:=n1_;have HO173:=n2_;have BK168:=n3_;have HB:=n4_;clear n0_ n1_ n2_ n3_ n4_;(try clear hb);(try clear hb2);(try clear hk);(try clear hi))|((with_reducible refine zAf (N:=36) rfl ?_);(try (refine gate_guard (by rfl) ?_;dsimp only));refine Kd.R_lit (Kd.int .i64) _ 3 ?hg (N:=36) ?hd (xs:=([0,1,0,3,0]:List Int)) (inner:=[.int .i64 0,.int .i64 1,.int .i64 0,.int .i64 3,.int .i64 0]) (ok:=fun _=>True) (okp:=fun _=>True) ?hr ?hp (fun _ hk=>hk) trivial (Below.refl _ _) (Nat.le_refl _) (by simp) ?_;(case hd=>rfl);(case hg=>rfl);(case hr=>first|(go_simp;done)|(go_simp;rfl));(case hp=>exact (Reps.one (show Kd.M (Kd.int .i64) _ _ _ 0 [.int .i64 0] from rfl) (Reps.one (show Kd.M (Kd.int .i64) _ _ _ 1 [.int .i64 1] from rfl) (Reps.one (show Kd.M (Kd.int .i64) _ _ _ 0 [.int .i64 0] from rfl) (Reps.one (show Kd.M (Kd.int .i64) _ _ _ 3 [.int .i64 3] from rfl) (Reps.one (show Kd.M (Kd.int .i64) _ _ _ 0 [.int .i64 0] from rfl) (Reps.none _ _)))))));intro v178 w21 ho22 hb hg_ hnew_;clear hg_ hnew_;(first|rw [← Ny177.out] at ho22|(simp only [Int.reduceToNat] at ho22;rw [← Ny177.out] at ho22));have n0_:=aK_ (Kd.R_below (by (with_reducible repeat (first|apply Kd.R_alloc|apply Kd.R_drewN|apply Kd.R_drew));exact HO163.out) hb);have n1_:=aK_ (Kd.S_below (by (with_reducible repeat (first|apply Kd.S_alloc|apply Kd.S_drewN|apply Kd.S_drew));exact HO167.out) hb);have n2_:=aK_ (Kd.R_elder' (by (with_reducible repeat (first|apply Kd.R_alloc|apply Kd.R_drewN|apply Kd.R_drew));exact HO173.out) (Kd.R_base ho22) hb);have n3_:=aK_ (Kd.R_lower (Kd.R_new' ho22 (Kd.R_lt (by (with_reducible repeat (first|apply Kd.R_alloc|apply Kd.R_drewN|apply Kd.R_drew));exact HO173.out))) (zAK (by repeat (first|(with_reducible first|exact HB.out|apply zAB|apply zAA|apply zAC|refine zAF ?_ GE168.out)|exact HB.out))));have n4_:=aK_ (zAX (g:=gb168) (o:=.cells #[.string t160,.slice Ao15 t161.length co15,.int .i64 t164,.slice Ao16 t165.length co16] 25 (0,0)) (by (with_reducible repeat (first|refine zAG ?_ _|refine zAI ?_|refine zAH ?_ _));exact BK168.out) hb);have n5_:=aK_ (zAL (by repeat (first|(with_reducible first|exact HB.out|apply zAB|apply zAA|apply zAC|refine zAF ?_ GE168.out)|exact HB.out)) hb);clear HO163;clear HO167;clear HO173;clear BK168;clear HB;have HO163:=n0_;have HO167:=n1_;have HO173:=n2_;have HO179:=n3_;have BK168:=n4_;have HB:=n5_;clear n0_ n1_ n2_ n3_ n4_ n5_;clear hb ho22;obtain ⟨Ao23,co23,eo23⟩:=Kd.R_slice HO173.out;subst eo23;obtain ⟨Ao24,co24,eo24⟩:=Kd.R_slice HO179.out;subst eo24)|(go_at_call 26;(with_reducible refine (zAe.calls k _ _ t171 _ _ y177 true _ ?side1 ?side2 ?side3 ?side4 A8.out).mono ?_);(case side1=>repeat (first|exact (Kd.R_reads' HO173.out).2.2|(with_reducible refine Kd.C_alloc ?_ _)|(with_reducible refine Kd.C_drewN ?_ _)|(with_reducible refine Kd.C_drew ?_)));(case side2=>exact (Kd.R_reads' HO173.out).2.1);(case side3=>repeat (first|exact (Kd.R_reads' HO179.out).2.2|(with_reducible refine Kd.C_alloc ?_ _)|(with_reducible refine Kd.C_drewN ?_ _)|(with_reducible refine Kd.C_drew ?_)));(case side4=>exact (Kd.R_reads' HO179.out).2.1);rintro e w' ⟨rfl,⟨nd,rfl⟩⟩;have hcz25_0:w21.cell? ⟨gb168,0,none⟩=some (.string t160):=(zAE BK168.out 0).trans rfl;have hcz25_1:w21.cell? ⟨gb168,1,none⟩=some (.slice Ao15 t161.length co15):=(zAE BK168.out 1).trans rfl;have hcz25_2:w21.cell? ⟨gb168,2,none⟩=some (.int .i64 t164):=(zAE BK168.out 2).trans rfl;have hcz25_3:w21.cell? ⟨gb168,3,none⟩=some (.slice Ao16 t165.length co16):=(zAE BK168.out 3).trans rfl;have hfz25_0:=zAD BK168.out 0;have hfz25_1:=zAD BK168.out 1;have hfz25_2:=zAD BK168.out 2;have hfz25_3:=zAD BK168.out 3)|(go_at_call 18;(with_reducible refine (tree_Same.calls k t160 _ _ t161 t164 _ _ t165 t160 _ _ t161 t164 _ _ t165 t181 _ ?side1 ?side2 ?side3 ?side4 ?side5 ?side6 ?side7 ?side8 A11.out).mono ?_);(case side1=>repeat (first|exact (Kd.R_reads' HO163.out).2.2|(with_reducible refine Kd.C_alloc ?_ _)|(with_reducible refine Kd.C_drewN ?_ _)|(with_reducible refine Kd.C_drew ?_)));(case side2=>exact (Kd.R_reads' HO163.out).2.1);(case side3=>repeat (first|exact (Kd.S_reads' HO167.out).2.2|(with_reducible refine Kd.C_alloc ?_ _)|(with_reducible refine Kd.C_drewN ?_ _)|(with_reducible refine Kd.C_drew ?_)));(case side4=>exact (Kd.S_reads' HO167.out).2.1);(case side5=>repeat (first|exact (Kd.R_reads' HO163.out).2.2|(with_reducible refine Kd.C_alloc ?_ _)|(with_reducible refine Kd.C_drewN ?_ _)|(with_reducible refine Kd.C_drew ?_)));(case side6=>exact (Kd.R_reads' HO163.out).2.1);(case side7=>repeat (first|exact (Kd.S_reads' HO167.out).2.2|(with_reducible refine Kd.C_alloc ?_ _)|(with_reducible refine Kd.C_drewN ?_ _)|(with_reducible refine Kd.C_drew ?_)));(case side8=>exact (Kd.S_reads' HO167.out).2.1);rintro e w26 ⟨rfl,hb⟩;have n0_:=aK_ (Kd.R_below (by (with_reducible repeat (first|apply Kd.R_alloc|apply Kd.R_drewN|apply Kd.R_drew));exact HO163.out) hb);have n1_:=aK_ (Kd.S_below (by (with_reducible repeat (first|apply Kd.S_alloc|apply Kd.S_drewN|apply Kd.S_drew));exact HO167.out) hb);have n2_:=aK_ (Kd.R_below (by (with_reducible repeat (first|apply Kd.R_alloc|apply Kd.R_drewN|apply Kd.R_drew));exact HO173.out) hb);have n3_:=aK_ (Kd.R_below (by (with_reducible repeat (first|apply Kd.R_alloc|apply Kd.R_drewN|apply Kd.R_drew));exact HO179.out) hb);have n4_:=aK_ (zAX (g:=gb168) (o:=.cells #[.string t160,.slice Ao15 t161.length co15,.int .i64 t164,.slice Ao16 t165.length co16] 25 (0,0)) (by (with_reducible repeat (first|refine zAG ?_ _|refine zAI ?_|refine zAH ?_ _));exact BK168.out) hb);have n5_:=aK_ (zAL (by repeat (first|(with_reducible first|exact HB.out|apply zAB|apply zAA|apply zAC|refine zAF ?_ GE168.out)|exact HB.out)) hb);clear HO163;clear HO167;clear HO173;clear HO179;clear BK168;clear HB;have HO163:=n0_;have HO167:=n1_;have HO173:=n2_;have HO179:=n3_;have BK168:=n4_;have HB:=n5_;clear n0_ n1_ n2_ n3_ n4_ n5_;(try clear hb);(try clear hb2);(try clear hk);(try clear hi)))
      go_ret
      exact ⟨by first|rfl|(simp [zAQ,zAP] <;> rfl)|(simp [*,zAQ,zAP] <;> rfl),by repeat (first|(with_reducible first|exact HB.out|apply zAB|apply zAA|apply zAC|refine zAF ?_ GE168.out)|exact HB.out)⟩
     ·rw [if_neg c10] at H
      have c10b0:(t176 == 61)=false:=beq_eq_false_iff_ne.mpr c10
      have c10b1:(t176 != 61)=true:=bne_iff_ne.mpr c10
      obtain rfl:=Option.some.inj H
      go_enter Tryd.func15,Tryd.ntmps15
      go_wp2_with (first|((with_reducible refine zAb (f:=36) rfl ?_);refine goesL_ (some 8) rfl rfl Tryd.func36 (by kernel_rfl) rfl #[] rfl (by (try simp only [List.map_toArray,List.map_cons,List.map_nil]);first|done|rfl|(simp only [List.length_drop,List.length_take];rfl)) ?_;(with_reducible refine (octroilaw05_five.calls  t160 t161 t164 t165 _ A1.out).mono ?_);rintro e w27 ⟨v162,v166,rfl,ho0,ho1,hb⟩;refine ⟨_,rfl,?_⟩;have n0_:=aK_ (Kd.R_lower ho0 (zAK (by repeat (first|(with_reducible first|exact HB.out|apply zAB|apply zAA|apply zAC)|exact HB.out))));have n1_:=aK_ (Kd.S_lower ho1 (zAK (by repeat (first|(with_reducible first|exact HB.out|apply zAB|apply zAA|apply zAC)|exact HB.out))));have n2_:=aK_ (zAL (by repeat (first|(with_reducible first|exact HB.out|apply zAB|apply zAA|apply zAC)|exact HB.out)) hb);clear HB;have HO163:=n0_;have HO167:=n1_;have HB:=n2_;clear n0_ n1_ n2_;(try clear hb);(try clear hb2);(try clear hk);(try clear hi);(try clear ho0);(try clear ho1))|((with_reducible refine zAf (N:=1) rfl ?_);(try (refine gate_guard (by rfl) ?_;dsimp only));refine zAc ?hg (N:=1) ?hd (cs:=#[.string (⟨#[]⟩:ByteArray),.slice none 0 0,.int .i64 0,.slice none 0 0]) (t:=25) ?hr ?_;(case hd=>rfl);(case hg=>rfl);(case hr=>first|(go_simp;done)|(go_simp;rfl));intro gb168 hg w28 hbox hb;have n0_:=aK_ (Kd.R_below (by (with_reducible repeat (first|apply Kd.R_alloc|apply Kd.R_drewN|apply Kd.R_drew));exact HO163.out) hb);have n1_:=aK_ (Kd.S_below (by (with_reducible repeat (first|apply Kd.S_alloc|apply Kd.S_drewN|apply Kd.S_drew));exact HO167.out) hb);have n2_:=aK_ (zAL (by repeat (first|(with_reducible first|exact HB.out|apply zAB|apply zAA|apply zAC)|exact HB.out)) hb);have n3_:=aK_ (hbox);have n4_:=aK_ ((by rw [hg];exact (zAK (by repeat (first|(with_reducible first|exact HB.out|apply zAB|apply zAA|apply zAC)|exact HB.out))):w.heap.size≤gb168));have n5_:=aK_ ((by rw [hg];exact (zAK (by repeat (first|(with_reducible first|exact HB.out|apply zAB|apply zAA|apply zAC)|exact HB.out))):w.heap.size≤gb168));clear HO163;clear HO167;clear HB;have HO163:=n0_;have HO167:=n1_;have HB:=n2_;have BK168:=n3_;have GW168:=n4_;have GE168:=n5_;clear n0_ n1_ n2_ n3_ n4_ n5_;clear hb hbox hg;have hcz29_0:w28.cell? ⟨gb168,0,none⟩=some (.string (⟨#[]⟩:ByteArray)):=(zAE BK168.out 0).trans rfl;have hcz29_1:w28.cell? ⟨gb168,1,none⟩=some (.slice none 0 0):=(zAE BK168.out 1).trans rfl;have hcz29_2:w28.cell? ⟨gb168,2,none⟩=some (.int .i64 0):=(zAE BK168.out 2).trans rfl;have hcz29_3:w28.cell? ⟨gb168,3,none⟩=some (.slice none 0 0):=(zAE BK168.out 3).trans rfl;have hfz29_0:=zAD BK168.out 0;have hfz29_1:=zAD BK168.out 1;have hfz29_2:=zAD BK168.out 2;have hfz29_3:=zAD BK168.out 3;obtain ⟨Ao30,co30,eo30⟩:=Kd.R_slice HO163.out;subst eo30;obtain ⟨Ao31,co31,eo31⟩:=Kd.S_slice HO167.out;subst eo31)|((with_reducible refine zAb (f:=16) rfl ?_);refine goesL_ (some 11) rfl rfl Tryd.func16 (by kernel_rfl) rfl #[.agg #[.string t160,.slice Ao30 t161.length co30,.int .i64 t164,.slice Ao31 t165.length co31]] rfl (by (try simp only [List.map_toArray,List.map_cons,List.map_nil]);first|done|rfl|(simp only [List.length_drop,List.length_take];rfl)) ?_;(with_reducible refine (zAh.calls k t160 _ _ t161 t164 _ _ t165 t169 t170 _ ?side1 ?side2 ?side3 ?side4 ?side5 A2.out).mono ?_);(case side1=>(first|(with_reducible exact hG)|((repeat (with_reducible first|exact hG|apply GW.drewN|apply GW.drew|apply GW.alloc));done)|exact GW.below hG (by repeat (first|(with_reducible first|exact HB.out|apply zAB|apply zAA|apply zAC|refine zAF ?_ GE168.out)|exact HB.out))));(case side2=>refine (Kd.R_reads' (e:=47) (base:=w.heap.size) (ok:=fun k_=>True) (n:=t161.length) (c:=co30) ?_).2.2;exact (by (with_reducible repeat (first|apply Kd.R_alloc|apply Kd.R_drewN|apply Kd.R_drew));exact (Kd.R_mono (Kd.R_far (p:=⟨gb168,3,none⟩) (Kd.R_far (p:=⟨gb168,2,none⟩) (Kd.R_far (p:=⟨gb168,1,none⟩) (Kd.R_far (p:=⟨gb168,0,none⟩) (Kd.R_types HO163.out BK168.out (by decide)) (fun _ hk=>hk.2) (.string t160)) (fun _ hk=>hk.2) (.slice Ao30 t161.length co30)) (fun _ hk=>hk.2) (.int .i64 t164)) (fun _ hk=>hk.2) (.slice Ao31 t165.length co31)) (fun _ h_=>h_.1))));(case side3=>exact (Kd.R_reads' HO163.out).2.1);(case side4=>refine (Kd.S_reads' (e:=33) (base:=w.heap.size) (ok:=fun k_=>True) (n:=t165.length) (c:=co31) ?_).2.2;exact (by (with_reducible repeat (first|apply Kd.S_alloc|apply Kd.S_drewN|apply Kd.S_drew));exact (Kd.S_mono (Kd.S_far (p:=⟨gb168,3,none⟩) (Kd.S_far (p:=⟨gb168,2,none⟩) (Kd.S_far (p:=⟨gb168,1,none⟩) (Kd.S_far (p:=⟨gb168,0,none⟩) (Kd.S_types HO167.out BK168.out (by decide)) (fun _ hk=>hk.2) (.string t160)) (fun _ hk=>hk.2) (.slice Ao30 t161.length co30)) (fun _ hk=>hk.2) (.int .i64 t164)) (fun _ hk=>hk.2) (.slice Ao31 t165.length co31)) (fun _ h_=>h_.1))));(case side5=>exact (Kd.S_reads' HO167.out).2.1);rintro e w32 ⟨rfl,hb⟩;refine ⟨_,rfl,?_⟩;have n0_:=aK_ (Kd.R_below (by (with_reducible repeat (first|apply Kd.R_alloc|apply Kd.R_drewN|apply Kd.R_drew));exact (Kd.R_mono (Kd.R_far (p:=⟨gb168,3,none⟩) (Kd.R_far (p:=⟨gb168,2,none⟩) (Kd.R_far (p:=⟨gb168,1,none⟩) (Kd.R_far (p:=⟨gb168,0,none⟩) (Kd.R_types HO163.out BK168.out (by decide)) (fun _ hk=>hk.2) (.string t160)) (fun _ hk=>hk.2) (.slice Ao30 t161.length co30)) (fun _ hk=>hk.2) (.int .i64 t164)) (fun _ hk=>hk.2) (.slice Ao31 t165.length co31)) (fun _ h_=>h_.1))) hb);have n1_:=aK_ (Kd.S_below (by (with_reducible repeat (first|apply Kd.S_alloc|apply Kd.S_drewN|apply Kd.S_drew));exact (Kd.S_mono (Kd.S_far (p:=⟨gb168,3,none⟩) (Kd.S_far (p:=⟨gb168,2,none⟩) (Kd.S_far (p:=⟨gb168,1,none⟩) (Kd.S_far (p:=⟨gb168,0,none⟩) (Kd.S_types HO167.out BK168.out (by decide)) (fun _ hk=>hk.2) (.string t160)) (fun _ hk=>hk.2) (.slice Ao30 t161.length co30)) (fun _ hk=>hk.2) (.int .i64 t164)) (fun _ hk=>hk.2) (.slice Ao31 t165.length co31)) (fun _ h_=>h_.1))) hb);have n2_:=aK_ (zAX (g:=gb168) (o:=.cells #[.string t160,.slice Ao30 t161.length co30,.int .i64 t164,.slice Ao31 t165.length co31] 25 (0,0)) (by (with_reducible repeat (first|refine zAG ?_ _|refine zAI ?_|refine zAH ?_ _));refine zAi (cs:=#[.string t160,.slice Ao30 t161.length co30,.int .i64 t164,.slice none 0 0]) ?_ 3 _ rfl;(with_reducible repeat (first|refine zAG ?_ _|refine zAI ?_|refine zAH ?_ _));refine zAi (cs:=#[.string t160,.slice Ao30 t161.length co30,.int .i64 0,.slice none 0 0]) ?_ 2 _ rfl;(with_reducible repeat (first|refine zAG ?_ _|refine zAI ?_|refine zAH ?_ _));refine zAi (cs:=#[.string t160,.slice none 0 0,.int .i64 0,.slice none 0 0]) ?_ 1 _ rfl;(with_reducible repeat (first|refine zAG ?_ _|refine zAI ?_|refine zAH ?_ _));refine zAi (cs:=#[.string (⟨#[]⟩:ByteArray),.slice none 0 0,.int .i64 0,.slice none 0 0]) ?_ 0 _ rfl;(with_reducible repeat (first|refine zAG ?_ _|refine zAI ?_|refine zAH ?_ _));exact BK168.out) hb);have n3_:=aK_ (zAL (by repeat (first|(with_reducible first|exact HB.out|apply zAB|apply zAA|apply zAC|refine zAF ?_ GE168.out)|exact HB.out)) hb);clear HO163;clear HO167;clear BK168;clear HB;have HO163:=n0_;have HO167:=n1_;have BK168:=n2_;have HB:=n3_;clear n0_ n1_ n2_ n3_;(try clear hb);(try clear hb2);(try clear hk);(try clear hi);have hcz33_0:w32.cell? ⟨gb168,0,none⟩=some (.string t160):=(zAE BK168.out 0).trans rfl;have hcz33_1:w32.cell? ⟨gb168,1,none⟩=some (.slice Ao30 t161.length co30):=(zAE BK168.out 1).trans rfl;have hcz33_2:w32.cell? ⟨gb168,2,none⟩=some (.int .i64 t164):=(zAE BK168.out 2).trans rfl;have hcz33_3:w32.cell? ⟨gb168,3,none⟩=some (.slice Ao31 t165.length co31):=(zAE BK168.out 3).trans rfl;have hfz33_0:=zAD BK168.out 0;have hfz33_1:=zAD BK168.out 1;have hfz33_2:=zAD BK168.out 2;have hfz33_3:=zAD BK168.out 3)|((with_reducible refine zAb (f:=23) rfl ?_);refine goesL_ (some 16) rfl rfl Tryd.func23 (by kernel_rfl) rfl #[.agg #[.string t160,.slice Ao30 t161.length co30,.int .i64 t164,.slice Ao31 t165.length co31]] rfl (by (try simp only [List.map_toArray,List.map_cons,List.map_nil]);first|done|rfl|(simp only [List.length_drop,List.length_take];rfl)) ?_;(with_reducible refine (tree_Firsts.calls k t160 _ _ t161 t164 _ _ t165 t171 t174 _ ?side1 ?side2 ?side3 ?side4 ?side5 A3.out).mono ?_);(case side1=>(first|(with_reducible exact hG)|((repeat (with_reducible first|exact hG|apply GW.drewN|apply GW.drew|apply GW.alloc));done)|exact GW.below hG (by repeat (first|(with_reducible first|exact HB.out|apply zAB|apply zAA|apply zAC|refine zAF ?_ GE168.out)|exact HB.out))));(case side2=>repeat (first|exact (Kd.R_reads' HO163.out).2.2|(with_reducible refine Kd.C_alloc ?_ _)|(with_reducible refine Kd.C_drewN ?_ _)|(with_reducible refine Kd.C_drew ?_)));(case side3=>exact (Kd.R_reads' HO163.out).2.1);(case side4=>repeat (first|exact (Kd.S_reads' HO167.out).2.2|(with_reducible refine Kd.C_alloc ?_ _)|(with_reducible refine Kd.C_drewN ?_ _)|(with_reducible refine Kd.C_drew ?_)));(case side5=>exact (Kd.S_reads' HO167.out).2.1);rintro e w34 ⟨v172,rfl,ho0,hb⟩;refine ⟨_,rfl,?_⟩;have n0_:=aK_ (Kd.R_below (by (with_reducible repeat (first|apply Kd.R_alloc|apply Kd.R_drewN|apply Kd.R_drew));exact HO163.out) hb);have n1_:=aK_ (Kd.S_below (by (with_reducible repeat (first|apply Kd.S_alloc|apply Kd.S_drewN|apply Kd.S_drew));exact HO167.out) hb);have n2_:=aK_ (Kd.R_lower ho0 (zAK (by repeat (first|(with_reducible first|exact HB.out|apply zAB|apply zAA|apply zAC|refine zAF ?_ GE168.out)|exact HB.out))));have n3_:=aK_ (zAX (g:=gb168) (o:=.cells #[.string t160,.slice Ao30 t161.length co30,.int .i64 t164,.slice Ao31 t165.length co31] 25 (0,0)) (by (with_reducible repeat (first|refine zAG ?_ _|refine zAI ?_|refine zAH ?_ _));exact BK168.out) hb);have n4_:=aK_ (zAL (by repeat (first|(with_reducible first|exact HB.out|apply zAB|apply zAA|apply zAC|refine zAF ?_ GE168.out)|exact HB.out)) hb);clear HO163;clear HO167;clear BK168;clear HB;have HO163:=n0_;have HO167:=n1_;have HO173:=n2_;have BK168:=n3_;have HB:=n4_;clear n0_ n1_ n2_ n3_ n4_;(try clear hb);(try clear hb2);(try clear hk);(try clear hi);(try clear ho0))|((with_reducible refine zAb (f:=16) rfl ?_);refine goesL_ (some 21) rfl rfl Tryd.func16 (by kernel_rfl) rfl #[.agg #[.string (⟨#[112,108,97,110]⟩:ByteArray),.slice none 0 0,.int .i64 0,.slice none 0 0]] rfl (by (try simp only [List.map_toArray,List.map_cons,List.map_nil]);first|done|rfl|(simp only [List.length_drop,List.length_take];rfl)) ?_;(refine (zAh.calls k (⟨#[112,108,97,110]⟩:ByteArray) _ _ ([]:List (S47)) 0 _ _ ([]:List (S33)) t175 t176 _ ?side1 ?side2 ?side3 ?side4 ?side5 A4.out).mono ?_);(case side1=>(first|(with_reducible exact hG)|((repeat (with_reducible first|exact hG|apply GW.drewN|apply GW.drew|apply GW.alloc));done)|exact GW.below hG (by repeat (first|(with_reducible first|exact HB.out|apply zAB|apply zAA|apply zAC|refine zAF ?_ GE168.out)|exact HB.out))));(case side2=>exact Kd.C_nil _ _);(case side3=>exact Nat.le_refl _);(case side4=>exact Kd.C_nil _ _);(case side5=>exact Nat.le_refl _);rintro e w35 ⟨rfl,hb⟩;refine ⟨_,rfl,?_⟩;have n0_:=aK_ (Kd.R_below (by (with_reducible repeat (first|apply Kd.R_alloc|apply Kd.R_drewN|apply Kd.R_drew));exact HO163.out) hb);have n1_:=aK_ (Kd.S_below (by (with_reducible repeat (first|apply Kd.S_alloc|apply Kd.S_drewN|apply Kd.S_drew));exact HO167.out) hb);have n2_:=aK_ (Kd.R_below (by (with_reducible repeat (first|apply Kd.R_alloc|apply Kd.R_drewN|apply Kd.R_drew));exact HO173.out) hb);have n3_:=aK_ (zAX (g:=gb168) (o:=.cells #[.string t160,.slice Ao30 t161.length co30,.int .i64 t164,.slice Ao31 t165.length co31] 25 (0,0)) (by (with_reducible repeat (first|refine zAG ?_ _|refine zAI ?_|refine zAH ?_ _));exact BK168.out) hb);have n4_:=aK_ (zAL (by repeat (first|(with_reducible first|exact HB.out|apply zAB|apply zAA|apply zAC|refine zAF ?_ GE168.out)|exact HB.out)) hb);clear HO163;clear HO167;clear HO173;clear BK168;clear HB;have HO163:=n0_;have HO167:=n1_;have HO173:=n2_;have BK168:=n3_;have HB:=n4_;clear n0_ n1_ n2_ n3_ n4_;(try clear hb);(try clear hb2);(try clear hk);(try clear hi))|((with_reducible refine zAf (N:=36) rfl ?_);(try (refine gate_guard (by rfl) ?_;dsimp only));refine Kd.R_lit (Kd.int .i64) _ 3 ?hg (N:=36) ?hd (xs:=([0,1,0,3,0]:List Int)) (inner:=[.int .i64 0,.int .i64 1,.int .i64 0,.int .i64 3,.int .i64 0]) (ok:=fun _=>True) (okp:=fun _=>True) ?hr ?hp (fun _ hk=>hk) trivial (Below.refl _ _) (Nat.le_refl _) (by simp) ?_;(case hd=>rfl);(case hg=>rfl);(case hr=>first|(go_simp;done)|(go_simp;rfl));(case hp=>exact (Reps.one (show Kd.M (Kd.int .i64) _ _ _ 0 [.int .i64 0] from rfl) (Reps.one (show Kd.M (Kd.int .i64) _ _ _ 1 [.int .i64 1] from rfl) (Reps.one (show Kd.M (Kd.int .i64) _ _ _ 0 [.int .i64 0] from rfl) (Reps.one (show Kd.M (Kd.int .i64) _ _ _ 3 [.int .i64 3] from rfl) (Reps.one (show Kd.M (Kd.int .i64) _ _ _ 0 [.int .i64 0] from rfl) (Reps.none _ _)))))));intro v178 w36 ho37 hb hg_ hnew_;clear hg_ hnew_;(first|rw [← Ny177.out] at ho37|(simp only [Int.reduceToNat] at ho37;rw [← Ny177.out] at ho37));have n0_:=aK_ (Kd.R_below (by (with_reducible repeat (first|apply Kd.R_alloc|apply Kd.R_drewN|apply Kd.R_drew));exact HO163.out) hb);have n1_:=aK_ (Kd.S_below (by (with_reducible repeat (first|apply Kd.S_alloc|apply Kd.S_drewN|apply Kd.S_drew));exact HO167.out) hb);have n2_:=aK_ (Kd.R_elder' (by (with_reducible repeat (first|apply Kd.R_alloc|apply Kd.R_drewN|apply Kd.R_drew));exact HO173.out) (Kd.R_base ho37) hb);have n3_:=aK_ (Kd.R_lower (Kd.R_new' ho37 (Kd.R_lt (by (with_reducible repeat (first|apply Kd.R_alloc|apply Kd.R_drewN|apply Kd.R_drew));exact HO173.out))) (zAK (by repeat (first|(with_reducible first|exact HB.out|apply zAB|apply zAA|apply zAC|refine zAF ?_ GE168.out)|exact HB.out))));have n4_:=aK_ (zAX (g:=gb168) (o:=.cells #[.string t160,.slice Ao30 t161.length co30,.int .i64 t164,.slice Ao31 t165.length co31] 25 (0,0)) (by (with_reducible repeat (first|refine zAG ?_ _|refine zAI ?_|refine zAH ?_ _));exact BK168.out) hb);have n5_:=aK_ (zAL (by repeat (first|(with_reducible first|exact HB.out|apply zAB|apply zAA|apply zAC|refine zAF ?_ GE168.out)|exact HB.out)) hb);clear HO163;clear HO167;clear HO173;clear BK168;clear HB;have HO163:=n0_;have HO167:=n1_;have HO173:=n2_;have HO179:=n3_;have BK168:=n4_;have HB:=n5_;clear n0_ n1_ n2_ n3_ n4_ n5_;clear hb ho37;obtain ⟨Ao38,co38,eo38⟩:=Kd.R_slice HO173.out;subst eo38;obtain ⟨Ao39,co39,eo39⟩:=Kd.R_slice HO179.out;subst eo39)|(go_at_call 26;(with_reducible refine (zAe.calls k _ _ t171 _ _ y177 true _ ?side1 ?side2 ?side3 ?side4 A8.out).mono ?_);(case side1=>repeat (first|exact (Kd.R_reads' HO173.out).2.2|(with_reducible refine Kd.C_alloc ?_ _)|(with_reducible refine Kd.C_drewN ?_ _)|(with_reducible refine Kd.C_drew ?_)));(case side2=>exact (Kd.R_reads' HO173.out).2.1);(case side3=>repeat (first|exact (Kd.R_reads' HO179.out).2.2|(with_reducible refine Kd.C_alloc ?_ _)|(with_reducible refine Kd.C_drewN ?_ _)|(with_reducible refine Kd.C_drew ?_)));(case side4=>exact (Kd.R_reads' HO179.out).2.1);rintro e w' ⟨rfl,⟨nd,rfl⟩⟩))
      go_ret
      exact ⟨by first|rfl|(simp [zAQ,zAP] <;> rfl)|(simp [*,zAQ,zAP] <;> rfl),by repeat (first|(with_reducible first|exact HB.out|apply zAB|apply zAA|apply zAC|refine zAF ?_ GE168.out)|exact HB.out)⟩
    ·replace c9:=Bool.eq_false_iff.mpr c9
     subst c9
     have H1:(some false)=some r:=by rw [if_neg (show ¬ (false=true) by decide)] at H;exact H
     clear H
     have H:=H1
     clear H1
     obtain rfl:=Option.some.inj H
     go_enter Tryd.func15,Tryd.ntmps15
     go_wp2_with (first|((with_reducible refine zAb (f:=36) rfl ?_);refine goesL_ (some 8) rfl rfl Tryd.func36 (by kernel_rfl) rfl #[] rfl (by (try simp only [List.map_toArray,List.map_cons,List.map_nil]);first|done|rfl|(simp only [List.length_drop,List.length_take];rfl)) ?_;(with_reducible refine (octroilaw05_five.calls  t160 t161 t164 t165 _ A1.out).mono ?_);rintro e w40 ⟨v162,v166,rfl,ho0,ho1,hb⟩;refine ⟨_,rfl,?_⟩;have n0_:=aK_ (Kd.R_lower ho0 (zAK (by repeat (first|(with_reducible first|exact HB.out|apply zAB|apply zAA|apply zAC)|exact HB.out))));have n1_:=aK_ (Kd.S_lower ho1 (zAK (by repeat (first|(with_reducible first|exact HB.out|apply zAB|apply zAA|apply zAC)|exact HB.out))));have n2_:=aK_ (zAL (by repeat (first|(with_reducible first|exact HB.out|apply zAB|apply zAA|apply zAC)|exact HB.out)) hb);clear HB;have HO163:=n0_;have HO167:=n1_;have HB:=n2_;clear n0_ n1_ n2_;(try clear hb);(try clear hb2);(try clear hk);(try clear hi);(try clear ho0);(try clear ho1))|((with_reducible refine zAf (N:=1) rfl ?_);(try (refine gate_guard (by rfl) ?_;dsimp only));refine zAc ?hg (N:=1) ?hd (cs:=#[.string (⟨#[]⟩:ByteArray),.slice none 0 0,.int .i64 0,.slice none 0 0]) (t:=25) ?hr ?_;(case hd=>rfl);(case hg=>rfl);(case hr=>first|(go_simp;done)|(go_simp;rfl));intro gb168 hg w41 hbox hb;have n0_:=aK_ (Kd.R_below (by (with_reducible repeat (first|apply Kd.R_alloc|apply Kd.R_drewN|apply Kd.R_drew));exact HO163.out) hb);have n1_:=aK_ (Kd.S_below (by (with_reducible repeat (first|apply Kd.S_alloc|apply Kd.S_drewN|apply Kd.S_drew));exact HO167.out) hb);have n2_:=aK_ (zAL (by repeat (first|(with_reducible first|exact HB.out|apply zAB|apply zAA|apply zAC)|exact HB.out)) hb);have n3_:=aK_ (hbox);have n4_:=aK_ ((by rw [hg];exact (zAK (by repeat (first|(with_reducible first|exact HB.out|apply zAB|apply zAA|apply zAC)|exact HB.out))):w.heap.size≤gb168));have n5_:=aK_ ((by rw [hg];exact (zAK (by repeat (first|(with_reducible first|exact HB.out|apply zAB|apply zAA|apply zAC)|exact HB.out))):w.heap.size≤gb168));clear HO163;clear HO167;clear HB;have HO163:=n0_;have HO167:=n1_;have HB:=n2_;have BK168:=n3_;have GW168:=n4_;have GE168:=n5_;clear n0_ n1_ n2_ n3_ n4_ n5_;clear hb hbox hg;have hcz42_0:w41.cell? ⟨gb168,0,none⟩=some (.string (⟨#[]⟩:ByteArray)):=(zAE BK168.out 0).trans rfl;have hcz42_1:w41.cell? ⟨gb168,1,none⟩=some (.slice none 0 0):=(zAE BK168.out 1).trans rfl;have hcz42_2:w41.cell? ⟨gb168,2,none⟩=some (.int .i64 0):=(zAE BK168.out 2).trans rfl;have hcz42_3:w41.cell? ⟨gb168,3,none⟩=some (.slice none 0 0):=(zAE BK168.out 3).trans rfl;have hfz42_0:=zAD BK168.out 0;have hfz42_1:=zAD BK168.out 1;have hfz42_2:=zAD BK168.out 2;have hfz42_3:=zAD BK168.out 3;obtain ⟨Ao43,co43,eo43⟩:=Kd.R_slice HO163.out;subst eo43;obtain ⟨Ao44,co44,eo44⟩:=Kd.S_slice HO167.out;subst eo44)|((with_reducible refine zAb (f:=16) rfl ?_);refine goesL_ (some 11) rfl rfl Tryd.func16 (by kernel_rfl) rfl #[.agg #[.string t160,.slice Ao43 t161.length co43,.int .i64 t164,.slice Ao44 t165.length co44]] rfl (by (try simp only [List.map_toArray,List.map_cons,List.map_nil]);first|done|rfl|(simp only [List.length_drop,List.length_take];rfl)) ?_;(with_reducible refine (zAh.calls k t160 _ _ t161 t164 _ _ t165 t169 t170 _ ?side1 ?side2 ?side3 ?side4 ?side5 A2.out).mono ?_);(case side1=>(first|(with_reducible exact hG)|((repeat (with_reducible first|exact hG|apply GW.drewN|apply GW.drew|apply GW.alloc));done)|exact GW.below hG (by repeat (first|(with_reducible first|exact HB.out|apply zAB|apply zAA|apply zAC|refine zAF ?_ GE168.out)|exact HB.out))));(case side2=>refine (Kd.R_reads' (e:=47) (base:=w.heap.size) (ok:=fun k_=>True) (n:=t161.length) (c:=co43) ?_).2.2;exact (by (with_reducible repeat (first|apply Kd.R_alloc|apply Kd.R_drewN|apply Kd.R_drew));exact (Kd.R_mono (Kd.R_far (p:=⟨gb168,3,none⟩) (Kd.R_far (p:=⟨gb168,2,none⟩) (Kd.R_far (p:=⟨gb168,1,none⟩) (Kd.R_far (p:=⟨gb168,0,none⟩) (Kd.R_types HO163.out BK168.out (by decide)) (fun _ hk=>hk.2) (.string t160)) (fun _ hk=>hk.2) (.slice Ao43 t161.length co43)) (fun _ hk=>hk.2) (.int .i64 t164)) (fun _ hk=>hk.2) (.slice Ao44 t165.length co44)) (fun _ h_=>h_.1))));(case side3=>exact (Kd.R_reads' HO163.out).2.1);(case side4=>refine (Kd.S_reads' (e:=33) (base:=w.heap.size) (ok:=fun k_=>True) (n:=t165.length) (c:=co44) ?_).2.2;exact (by (with_reducible repeat (first|apply Kd.S_alloc|apply Kd.S_drewN|apply Kd.S_drew));exact (Kd.S_mono (Kd.S_far (p:=⟨gb168,3,none⟩) (Kd.S_far (p:=⟨gb168,2,none⟩) (Kd.S_far (p:=⟨gb168,1,none⟩) (Kd.S_far (p:=⟨gb168,0,none⟩) (Kd.S_types HO167.out BK168.out (by decide)) (fun _ hk=>hk.2) (.string t160)) (fun _ hk=>hk.2) (.slice Ao43 t161.length co43)) (fun _ hk=>hk.2) (.int .i64 t164)) (fun _ hk=>hk.2) (.slice Ao44 t165.length co44)) (fun _ h_=>h_.1))));(case side5=>exact (Kd.S_reads' HO167.out).2.1);rintro e w45 ⟨rfl,hb⟩;refine ⟨_,rfl,?_⟩;have n0_:=aK_ (Kd.R_below (by (with_reducible repeat (first|apply Kd.R_alloc|apply Kd.R_drewN|apply Kd.R_drew));exact (Kd.R_mono (Kd.R_far (p:=⟨gb168,3,none⟩) (Kd.R_far (p:=⟨gb168,2,none⟩) (Kd.R_far (p:=⟨gb168,1,none⟩) (Kd.R_far (p:=⟨gb168,0,none⟩) (Kd.R_types HO163.out BK168.out (by decide)) (fun _ hk=>hk.2) (.string t160)) (fun _ hk=>hk.2) (.slice Ao43 t161.length co43)) (fun _ hk=>hk.2) (.int .i64 t164)) (fun _ hk=>hk.2) (.slice Ao44 t165.length co44)) (fun _ h_=>h_.1))) hb);have n1_:=aK_ (Kd.S_below (by (with_reducible repeat (first|apply Kd.S_alloc|apply Kd.S_drewN|apply Kd.S_drew));exact (Kd.S_mono (Kd.S_far (p:=⟨gb168,3,none⟩) (Kd.S_far (p:=⟨gb168,2,none⟩) (Kd.S_far (p:=⟨gb168,1,none⟩) (Kd.S_far (p:=⟨gb168,0,none⟩) (Kd.S_types HO167.out BK168.out (by decide)) (fun _ hk=>hk.2) (.string t160)) (fun _ hk=>hk.2) (.slice Ao43 t161.length co43)) (fun _ hk=>hk.2) (.int .i64 t164)) (fun _ hk=>hk.2) (.slice Ao44 t165.length co44)) (fun _ h_=>h_.1))) hb);have n2_:=aK_ (zAX (g:=gb168) (o:=.cells #[.string t160,.slice Ao43 t161.length co43,.int .i64 t164,.slice Ao44 t165.length co44] 25 (0,0)) (by (with_reducible repeat (first|refine zAG ?_ _|refine zAI ?_|refine zAH ?_ _));refine zAi (cs:=#[.string t160,.slice Ao43 t161.length co43,.int .i64 t164,.slice none 0 0]) ?_ 3 _ rfl;(with_reducible repeat (first|refine zAG ?_ _|refine zAI ?_|refine zAH ?_ _));refine zAi (cs:=#[.string t160,.slice Ao43 t161.length co43,.int .i64 0,.slice none 0 0]) ?_ 2 _ rfl;(with_reducible repeat (first|refine zAG ?_ _|refine zAI ?_|refine zAH ?_ _));refine zAi (cs:=#[.string t160,.slice none 0 0,.int .i64 0,.slice none 0 0]) ?_ 1 _ rfl;(with_reducible repeat (first|refine zAG ?_ _|refine zAI ?_|refine zAH ?_ _));refine zAi (cs:=#[.string (⟨#[]⟩:ByteArray),.slice none 0 0,.int .i64 0,.slice none 0 0]) ?_ 0 _ rfl;(with_reducible repeat (first|refine zAG ?_ _|refine zAI ?_|refine zAH ?_ _));exact BK168.out) hb);have n3_:=aK_ (zAL (by repeat (first|(with_reducible first|exact HB.out|apply zAB|apply zAA|apply zAC|refine zAF ?_ GE168.out)|exact HB.out)) hb);clear HO163;clear HO167;clear BK168;clear HB;have HO163:=n0_;have HO167:=n1_;have BK168:=n2_;have HB:=n3_;clear n0_ n1_ n2_ n3_;(try clear hb);(try clear hb2);(try clear hk);(try clear hi);have hcz46_0:w45.cell? ⟨gb168,0,none⟩=some (.string t160):=(zAE BK168.out 0).trans rfl;have hcz46_1:w45.cell? ⟨gb168,1,none⟩=some (.slice Ao43 t161.length co43):=(zAE BK168.out 1).trans rfl;have hcz46_2:w45.cell? ⟨gb168,2,none⟩=some (.int .i64 t164):=(zAE BK168.out 2).trans rfl;have hcz46_3:w45.cell? ⟨gb168,3,none⟩=some (.slice Ao44 t165.length co44):=(zAE BK168.out 3).trans rfl;have hfz46_0:=zAD BK168.out 0;have hfz46_1:=zAD BK168.out 1;have hfz46_2:=zAD BK168.out 2;have hfz46_3:=zAD BK168.out 3)|((with_reducible refine zAb (f:=23) rfl ?_);refine goesL_ (some 16) rfl rfl Tryd.func23 (by kernel_rfl) rfl #[.agg #[.string t160,.slice Ao43 t161.length co43,.int .i64 t164,.slice Ao44 t165.length co44]] rfl (by (try simp only [List.map_toArray,List.map_cons,List.map_nil]);first|done|rfl|(simp only [List.length_drop,List.length_take];rfl)) ?_;(with_reducible refine (tree_Firsts.calls k t160 _ _ t161 t164 _ _ t165 t171 t174 _ ?side1 ?side2 ?side3 ?side4 ?side5 A3.out).mono ?_);(case side1=>(first|(with_reducible exact hG)|((repeat (with_reducible first|exact hG|apply GW.drewN|apply GW.drew|apply GW.alloc));done)|exact GW.below hG (by repeat (first|(with_reducible first|exact HB.out|apply zAB|apply zAA|apply zAC|refine zAF ?_ GE168.out)|exact HB.out))));(case side2=>repeat (first|exact (Kd.R_reads' HO163.out).2.2|(with_reducible refine Kd.C_alloc ?_ _)|(with_reducible refine Kd.C_drewN ?_ _)|(with_reducible refine Kd.C_drew ?_)));(case side3=>exact (Kd.R_reads' HO163.out).2.1);(case side4=>repeat (first|exact (Kd.S_reads' HO167.out).2.2|(with_reducible refine Kd.C_alloc ?_ _)|(with_reducible refine Kd.C_drewN ?_ _)|(with_reducible refine Kd.C_drew ?_)));(case side5=>exact (Kd.S_reads' HO167.out).2.1);rintro e w47 ⟨v172,rfl,ho0,hb⟩;refine ⟨_,rfl,?_⟩;have n0_:=aK_ (Kd.R_below (by (with_reducible repeat (first|apply Kd.R_alloc|apply Kd.R_drewN|apply Kd.R_drew));exact HO163.out) hb);have n1_:=aK_ (Kd.S_below (by (with_reducible repeat (first|apply Kd.S_alloc|apply Kd.S_drewN|apply Kd.S_drew));exact HO167.out) hb);have n2_:=aK_ (Kd.R_lower ho0 (zAK (by repeat (first|(with_reducible first|exact HB.out|apply zAB|apply zAA|apply zAC|refine zAF ?_ GE168.out)|exact HB.out))));have n3_:=aK_ (zAX (g:=gb168) (o:=.cells #[.string t160,.slice Ao43 t161.length co43,.int .i64 t164,.slice Ao44 t165.length co44] 25 (0,0)) (by (with_reducible repeat (first|refine zAG ?_ _|refine zAI ?_|refine zAH ?_ _));exact BK168.out) hb);have n4_:=aK_ (zAL (by repeat (first|(with_reducible first|exact HB.out|apply zAB|apply zAA|apply zAC|refine zAF ?_ GE168.out)|exact HB.out)) hb);clear HO163;clear HO167;clear BK168;clear HB;have HO163:=n0_;have HO167:=n1_;have HO173:=n2_;have BK168:=n3_;have HB:=n4_;clear n0_ n1_ n2_ n3_ n4_;(try clear hb);(try clear hb2);(try clear hk);(try clear hi);(try clear ho0))|((with_reducible refine zAb (f:=16) rfl ?_);refine goesL_ (some 21) rfl rfl Tryd.func16 (by kernel_rfl) rfl #[.agg #[.string (⟨#[112,108,97,110]⟩:ByteArray),.slice none 0 0,.int .i64 0,.slice none 0 0]] rfl (by (try simp only [List.map_toArray,List.map_cons,List.map_nil]);first|done|rfl|(simp only [List.length_drop,List.length_take];rfl)) ?_;(refine (zAh.calls k (⟨#[112,108,97,110]⟩:ByteArray) _ _ ([]:List (S47)) 0 _ _ ([]:List (S33)) t175 t176 _ ?side1 ?side2 ?side3 ?side4 ?side5 A4.out).mono ?_);(case side1=>(first|(with_reducible exact hG)|((repeat (with_reducible first|exact hG|apply GW.drewN|apply GW.drew|apply GW.alloc));done)|exact GW.below hG (by repeat (first|(with_reducible first|exact HB.out|apply zAB|apply zAA|apply zAC|refine zAF ?_ GE168.out)|exact HB.out))));(case side2=>exact Kd.C_nil _ _);(case side3=>exact Nat.le_refl _);(case side4=>exact Kd.C_nil _ _);(case side5=>exact Nat.le_refl _);rintro e w48 ⟨rfl,hb⟩;refine ⟨_,rfl,?_⟩;have n0_:=aK_ (Kd.R_below (by (with_reducible repeat (first|apply Kd.R_alloc|apply Kd.R_drewN|apply Kd.R_drew));exact HO163.out) hb);have n1_:=aK_ (Kd.S_below (by (with_reducible repeat (first|apply Kd.S_alloc|apply Kd.S_drewN|apply Kd.S_drew));exact HO167.out) hb);have n2_:=aK_ (Kd.R_below (by (with_reducible repeat (first|apply Kd.R_alloc|apply Kd.R_drewN|apply Kd.R_drew));exact HO173.out) hb);have n3_:=aK_ (zAX (g:=gb168) (o:=.cells #[.string t160,.slice Ao43 t161.length co43,.int .i64 t164,.slice Ao44 t165.length co44] 25 (0,0)) (by (with_reducible repeat (first|refine zAG ?_ _|refine zAI ?_|refine zAH ?_ _));exact BK168.out) hb);have n4_:=aK_ (zAL (by repeat (first|(with_reducible first|exact HB.out|apply zAB|apply zAA|apply zAC|refine zAF ?_ GE168.out)|exact HB.out)) hb);clear HO163;clear HO167;clear HO173;clear BK168;clear HB;have HO163:=n0_;have HO167:=n1_;have HO173:=n2_;have BK168:=n3_;have HB:=n4_;clear n0_ n1_ n2_ n3_ n4_;(try clear hb);(try clear hb2);(try clear hk);(try clear hi))|((with_reducible refine zAf (N:=36) rfl ?_);(try (refine gate_guard (by rfl) ?_;dsimp only));refine Kd.R_lit (Kd.int .i64) _ 3 ?hg (N:=36) ?hd (xs:=([0,1,0,3,0]:List Int)) (inner:=[.int .i64 0,.int .i64 1,.int .i64 0,.int .i64 3,.int .i64 0]) (ok:=fun _=>True) (okp:=fun _=>True) ?hr ?hp (fun _ hk=>hk) trivial (Below.refl _ _) (Nat.le_refl _) (by simp) ?_;(case hd=>rfl);(case hg=>rfl);(case hr=>first|(go_simp;done)|(go_simp;rfl));(case hp=>exact (Reps.one (show Kd.M (Kd.int .i64) _ _ _ 0 [.int .i64 0] from rfl) (Reps.one (show Kd.M (Kd.int .i64) _ _ _ 1 [.int .i64 1] from rfl) (Reps.one (show Kd.M (Kd.int .i64) _ _ _ 0 [.int .i64 0] from rfl) (Reps.one (show Kd.M (Kd.int .i64) _ _ _ 3 [.int .i64 3] from rfl) (Reps.one (show Kd.M (Kd.int .i64) _ _ _ 0 [.int .i64 0] from rfl) (Reps.none _ _)))))));intro v178 w49 ho50 hb hg_ hnew_;clear hg_ hnew_;(first|rw [← Ny177.out] at ho50|(simp only [Int.reduceToNat] at ho50;rw [← Ny177.out] at ho50));have n0_:=aK_ (Kd.R_below (by (with_reducible repeat (first|apply Kd.R_alloc|apply Kd.R_drewN|apply Kd.R_drew));exact HO163.out) hb);have n1_:=aK_ (Kd.S_below (by (with_reducible repeat (first|apply Kd.S_alloc|apply Kd.S_drewN|apply Kd.S_drew));exact HO167.out) hb);have n2_:=aK_ (Kd.R_elder' (by (with_reducible repeat (first|apply Kd.R_alloc|apply Kd.R_drewN|apply Kd.R_drew));exact HO173.out) (Kd.R_base ho50) hb);have n3_:=aK_ (Kd.R_lower (Kd.R_new' ho50 (Kd.R_lt (by (with_reducible repeat (first|apply Kd.R_alloc|apply Kd.R_drewN|apply Kd.R_drew));exact HO173.out))) (zAK (by repeat (first|(with_reducible first|exact HB.out|apply zAB|apply zAA|apply zAC|refine zAF ?_ GE168.out)|exact HB.out))));have n4_:=aK_ (zAX (g:=gb168) (o:=.cells #[.string t160,.slice Ao43 t161.length co43,.int .i64 t164,.slice Ao44 t165.length co44] 25 (0,0)) (by (with_reducible repeat (first|refine zAG ?_ _|refine zAI ?_|refine zAH ?_ _));exact BK168.out) hb);have n5_:=aK_ (zAL (by repeat (first|(with_reducible first|exact HB.out|apply zAB|apply zAA|apply zAC|refine zAF ?_ GE168.out)|exact HB.out)) hb);clear HO163;clear HO167;clear HO173;clear BK168;clear HB;have HO163:=n0_;have HO167:=n1_;have HO173:=n2_;have HO179:=n3_;have BK168:=n4_;have HB:=n5_;clear n0_ n1_ n2_ n3_ n4_ n5_;clear hb ho50;obtain ⟨Ao51,co51,eo51⟩:=Kd.R_slice HO173.out;subst eo51;obtain ⟨Ao52,co52,eo52⟩:=Kd.R_slice HO179.out;subst eo52)|(go_at_call 26;(with_reducible refine (zAe.calls k _ _ t171 _ _ y177 false _ ?side1 ?side2 ?side3 ?side4 A8.out).mono ?_);(case side1=>repeat (first|exact (Kd.R_reads' HO173.out).2.2|(with_reducible refine Kd.C_alloc ?_ _)|(with_reducible refine Kd.C_drewN ?_ _)|(with_reducible refine Kd.C_drew ?_)));(case side2=>exact (Kd.R_reads' HO173.out).2.1);(case side3=>repeat (first|exact (Kd.R_reads' HO179.out).2.2|(with_reducible refine Kd.C_alloc ?_ _)|(with_reducible refine Kd.C_drewN ?_ _)|(with_reducible refine Kd.C_drew ?_)));(case side4=>exact (Kd.R_reads' HO179.out).2.1);rintro e w' ⟨rfl,⟨nd,rfl⟩⟩))
     go_ret
     exact ⟨by first|rfl|(simp [zAQ,zAP] <;> rfl)|(simp [*,zAQ,zAP] <;> rfl),by repeat (first|(with_reducible first|exact HB.out|apply zAB|apply zAA|apply zAC|refine zAF ?_ GE168.out)|exact HB.out)⟩
   ·rw [if_neg c7] at H
    have c7b0:(t174 == 0)=false:=beq_eq_false_iff_ne.mpr c7
    have c7b1:(t174 != 0)=true:=bne_iff_ne.mpr c7
    obtain rfl:=Option.some.inj H
    go_enter Tryd.func15,Tryd.ntmps15
    go_wp2_with (first|((with_reducible refine zAb (f:=36) rfl ?_);refine goesL_ (some 8) rfl rfl Tryd.func36 (by kernel_rfl) rfl #[] rfl (by (try simp only [List.map_toArray,List.map_cons,List.map_nil]);first|done|rfl|(simp only [List.length_drop,List.length_take];rfl)) ?_;(with_reducible refine (octroilaw05_five.calls  t160 t161 t164 t165 _ A1.out).mono ?_);rintro e w53 ⟨v162,v166,rfl,ho0,ho1,hb⟩;refine ⟨_,rfl,?_⟩;have n0_:=aK_ (Kd.R_lower ho0 (zAK (by repeat (first|(with_reducible first|exact HB.out|apply zAB|apply zAA|apply zAC)|exact HB.out))));have n1_:=aK_ (Kd.S_lower ho1 (zAK (by repeat (first|(with_reducible first|exact HB.out|apply zAB|apply zAA|apply zAC)|exact HB.out))));have n2_:=aK_ (zAL (by repeat (first|(with_reducible first|exact HB.out|apply zAB|apply zAA|apply zAC)|exact HB.out)) hb);clear HB;have HO163:=n0_;have HO167:=n1_;have HB:=n2_;clear n0_ n1_ n2_;(try clear hb);(try clear hb2);(try clear hk);(try clear hi);(try clear ho0);(try clear ho1))|((with_reducible refine zAf (N:=1) rfl ?_);(try (refine gate_guard (by rfl) ?_;dsimp only));refine zAc ?hg (N:=1) ?hd (cs:=#[.string (⟨#[]⟩:ByteArray),.slice none 0 0,.int .i64 0,.slice none 0 0]) (t:=25) ?hr ?_;(case hd=>rfl);(case hg=>rfl);(case hr=>first|(go_simp;done)|(go_simp;rfl));intro gb168 hg w54 hbox hb;have n0_:=aK_ (Kd.R_below (by (with_reducible repeat (first|apply Kd.R_alloc|apply Kd.R_drewN|apply Kd.R_drew));exact HO163.out) hb);have n1_:=aK_ (Kd.S_below (by (with_reducible repeat (first|apply Kd.S_alloc|apply Kd.S_drewN|apply Kd.S_drew));exact HO167.out) hb);have n2_:=aK_ (zAL (by repeat (first|(with_reducible first|exact HB.out|apply zAB|apply zAA|apply zAC)|exact HB.out)) hb);have n3_:=aK_ (hbox);have n4_:=aK_ ((by rw [hg];exact (zAK (by repeat (first|(with_reducible first|exact HB.out|apply zAB|apply zAA|apply zAC)|exact HB.out))):w.heap.size≤gb168));have n5_:=aK_ ((by rw [hg];exact (zAK (by repeat (first|(with_reducible first|exact HB.out|apply zAB|apply zAA|apply zAC)|exact HB.out))):w.heap.size≤gb168));clear HO163;clear HO167;clear HB;have HO163:=n0_;have HO167:=n1_;have HB:=n2_;have BK168:=n3_;have GW168:=n4_;have GE168:=n5_;clear n0_ n1_ n2_ n3_ n4_ n5_;clear hb hbox hg;have hcz55_0:w54.cell? ⟨gb168,0,none⟩=some (.string (⟨#[]⟩:ByteArray)):=(zAE BK168.out 0).trans rfl;have hcz55_1:w54.cell? ⟨gb168,1,none⟩=some (.slice none 0 0):=(zAE BK168.out 1).trans rfl;have hcz55_2:w54.cell? ⟨gb168,2,none⟩=some (.int .i64 0):=(zAE BK168.out 2).trans rfl;have hcz55_3:w54.cell? ⟨gb168,3,none⟩=some (.slice none 0 0):=(zAE BK168.out 3).trans rfl;have hfz55_0:=zAD BK168.out 0;have hfz55_1:=zAD BK168.out 1;have hfz55_2:=zAD BK168.out 2;have hfz55_3:=zAD BK168.out 3;obtain ⟨Ao56,co56,eo56⟩:=Kd.R_slice HO163.out;subst eo56;obtain ⟨Ao57,co57,eo57⟩:=Kd.S_slice HO167.out;subst eo57)|((with_reducible refine zAb (f:=16) rfl ?_);refine goesL_ (some 11) rfl rfl Tryd.func16 (by kernel_rfl) rfl #[.agg #[.string t160,.slice Ao56 t161.length co56,.int .i64 t164,.slice Ao57 t165.length co57]] rfl (by (try simp only [List.map_toArray,List.map_cons,List.map_nil]);first|done|rfl|(simp only [List.length_drop,List.length_take];rfl)) ?_;(with_reducible refine (zAh.calls k t160 _ _ t161 t164 _ _ t165 t169 t170 _ ?side1 ?side2 ?side3 ?side4 ?side5 A2.out).mono ?_);(case side1=>(first|(with_reducible exact hG)|((repeat (with_reducible first|exact hG|apply GW.drewN|apply GW.drew|apply GW.alloc));done)|exact GW.below hG (by repeat (first|(with_reducible first|exact HB.out|apply zAB|apply zAA|apply zAC|refine zAF ?_ GE168.out)|exact HB.out))));(case side2=>refine (Kd.R_reads' (e:=47) (base:=w.heap.size) (ok:=fun k_=>True) (n:=t161.length) (c:=co56) ?_).2.2;exact (by (with_reducible repeat (first|apply Kd.R_alloc|apply Kd.R_drewN|apply Kd.R_drew));exact (Kd.R_mono (Kd.R_far (p:=⟨gb168,3,none⟩) (Kd.R_far (p:=⟨gb168,2,none⟩) (Kd.R_far (p:=⟨gb168,1,none⟩) (Kd.R_far (p:=⟨gb168,0,none⟩) (Kd.R_types HO163.out BK168.out (by decide)) (fun _ hk=>hk.2) (.string t160)) (fun _ hk=>hk.2) (.slice Ao56 t161.length co56)) (fun _ hk=>hk.2) (.int .i64 t164)) (fun _ hk=>hk.2) (.slice Ao57 t165.length co57)) (fun _ h_=>h_.1))));(case side3=>exact (Kd.R_reads' HO163.out).2.1);(case side4=>refine (Kd.S_reads' (e:=33) (base:=w.heap.size) (ok:=fun k_=>True) (n:=t165.length) (c:=co57) ?_).2.2;exact (by (with_reducible repeat (first|apply Kd.S_alloc|apply Kd.S_drewN|apply Kd.S_drew));exact (Kd.S_mono (Kd.S_far (p:=⟨gb168,3,none⟩) (Kd.S_far (p:=⟨gb168,2,none⟩) (Kd.S_far (p:=⟨gb168,1,none⟩) (Kd.S_far (p:=⟨gb168,0,none⟩) (Kd.S_types HO167.out BK168.out (by decide)) (fun _ hk=>hk.2) (.string t160)) (fun _ hk=>hk.2) (.slice Ao56 t161.length co56)) (fun _ hk=>hk.2) (.int .i64 t164)) (fun _ hk=>hk.2) (.slice Ao57 t165.length co57)) (fun _ h_=>h_.1))));(case side5=>exact (Kd.S_reads' HO167.out).2.1);rintro e w58 ⟨rfl,hb⟩;refine ⟨_,rfl,?_⟩;have n0_:=aK_ (Kd.R_below (by (with_reducible repeat (first|apply Kd.R_alloc|apply Kd.R_drewN|apply Kd.R_drew));exact (Kd.R_mono (Kd.R_far (p:=⟨gb168,3,none⟩) (Kd.R_far (p:=⟨gb168,2,none⟩) (Kd.R_far (p:=⟨gb168,1,none⟩) (Kd.R_far (p:=⟨gb168,0,none⟩) (Kd.R_types HO163.out BK168.out (by decide)) (fun _ hk=>hk.2) (.string t160)) (fun _ hk=>hk.2) (.slice Ao56 t161.length co56)) (fun _ hk=>hk.2) (.int .i64 t164)) (fun _ hk=>hk.2) (.slice Ao57 t165.length co57)) (fun _ h_=>h_.1))) hb);have n1_:=aK_ (Kd.S_below (by (with_reducible repeat (first|apply Kd.S_alloc|apply Kd.S_drewN|apply Kd.S_drew));exact (Kd.S_mono (Kd.S_far (p:=⟨gb168,3,none⟩) (Kd.S_far (p:=⟨gb168,2,none⟩) (Kd.S_far (p:=⟨gb168,1,none⟩) (Kd.S_far (p:=⟨gb168,0,none⟩) (Kd.S_types HO167.out BK168.out (by decide)) (fun _ hk=>hk.2) (.string t160)) (fun _ hk=>hk.2) (.slice Ao56 t161.length co56)) (fun _ hk=>hk.2) (.int .i64 t164)) (fun _ hk=>hk.2) (.slice Ao57 t165.length co57)) (fun _ h_=>h_.1))) hb);have n2_:=aK_ (zAX (g:=gb168) (o:=.cells #[.string t160,.slice Ao56 t161.length co56,.int .i64 t164,.slice Ao57 t165.length co57] 25 (0,0)) (by (with_reducible repeat (first|refine zAG ?_ _|refine zAI ?_|refine zAH ?_ _));refine zAi (cs:=#[.string t160,.slice Ao56 t161.length co56,.int .i64 t164,.slice none 0 0]) ?_ 3 _ rfl;(with_reducible repeat (first|refine zAG ?_ _|refine zAI ?_|refine zAH ?_ _));refine zAi (cs:=#[.string t160,.slice Ao56 t161.length co56,.int .i64 0,.slice none 0 0]) ?_ 2 _ rfl;(with_reducible repeat (first|refine zAG ?_ _|refine zAI ?_|refine zAH ?_ _));refine zAi (cs:=#[.string t160,.slice none 0 0,.int .i64 0,.slice none 0 0]) ?_ 1 _ rfl;(with_reducible repeat (first|refine zAG ?_ _|refine zAI ?_|refine zAH ?_ _));refine zAi (cs:=#[.string (⟨#[]⟩:ByteArray),.slice none 0 0,.int .i64 0,.slice none 0 0]) ?_ 0 _ rfl;(with_reducible repeat (first|refine zAG ?_ _|refine zAI ?_|refine zAH ?_ _));exact BK168.out) hb);have n3_:=aK_ (zAL (by repeat (first|(with_reducible first|exact HB.out|apply zAB|apply zAA|apply zAC|refine zAF ?_ GE168.out)|exact HB.out)) hb);clear HO163;clear HO167;clear BK168;clear HB;have HO163:=n0_;have HO167:=n1_;have BK168:=n2_;have HB:=n3_;clear n0_ n1_ n2_ n3_;(try clear hb);(try clear hb2);(try clear hk);(try clear hi);have hcz59_0:w58.cell? ⟨gb168,0,none⟩=some (.string t160):=(zAE BK168.out 0).trans rfl;have hcz59_1:w58.cell? ⟨gb168,1,none⟩=some (.slice Ao56 t161.length co56):=(zAE BK168.out 1).trans rfl;have hcz59_2:w58.cell? ⟨gb168,2,none⟩=some (.int .i64 t164):=(zAE BK168.out 2).trans rfl;have hcz59_3:w58.cell? ⟨gb168,3,none⟩=some (.slice Ao57 t165.length co57):=(zAE BK168.out 3).trans rfl;have hfz59_0:=zAD BK168.out 0;have hfz59_1:=zAD BK168.out 1;have hfz59_2:=zAD BK168.out 2;have hfz59_3:=zAD BK168.out 3)|((with_reducible refine zAb (f:=23) rfl ?_);refine goesL_ (some 16) rfl rfl Tryd.func23 (by kernel_rfl) rfl #[.agg #[.string t160,.slice Ao56 t161.length co56,.int .i64 t164,.slice Ao57 t165.length co57]] rfl (by (try simp only [List.map_toArray,List.map_cons,List.map_nil]);first|done|rfl|(simp only [List.length_drop,List.length_take];rfl)) ?_;(with_reducible refine (tree_Firsts.calls k t160 _ _ t161 t164 _ _ t165 t171 t174 _ ?side1 ?side2 ?side3 ?side4 ?side5 A3.out).mono ?_);(case side1=>(first|(with_reducible exact hG)|((repeat (with_reducible first|exact hG|apply GW.drewN|apply GW.drew|apply GW.alloc));done)|exact GW.below hG (by repeat (first|(with_reducible first|exact HB.out|apply zAB|apply zAA|apply zAC|refine zAF ?_ GE168.out)|exact HB.out))));(case side2=>repeat (first|exact (Kd.R_reads' HO163.out).2.2|(with_reducible refine Kd.C_alloc ?_ _)|(with_reducible refine Kd.C_drewN ?_ _)|(with_reducible refine Kd.C_drew ?_)));(case side3=>exact (Kd.R_reads' HO163.out).2.1);(case side4=>repeat (first|exact (Kd.S_reads' HO167.out).2.2|(with_reducible refine Kd.C_alloc ?_ _)|(with_reducible refine Kd.C_drewN ?_ _)|(with_reducible refine Kd.C_drew ?_)));(case side5=>exact (Kd.S_reads' HO167.out).2.1);rintro e w60 ⟨v172,rfl,ho0,hb⟩;refine ⟨_,rfl,?_⟩;have n0_:=aK_ (Kd.R_below (by (with_reducible repeat (first|apply Kd.R_alloc|apply Kd.R_drewN|apply Kd.R_drew));exact HO163.out) hb);have n1_:=aK_ (Kd.S_below (by (with_reducible repeat (first|apply Kd.S_alloc|apply Kd.S_drewN|apply Kd.S_drew));exact HO167.out) hb);have n2_:=aK_ (Kd.R_lower ho0 (zAK (by repeat (first|(with_reducible first|exact HB.out|apply zAB|apply zAA|apply zAC|refine zAF ?_ GE168.out)|exact HB.out))));have n3_:=aK_ (zAX (g:=gb168) (o:=.cells #[.string t160,.slice Ao56 t161.length co56,.int .i64 t164,.slice Ao57 t165.length co57] 25 (0,0)) (by (with_reducible repeat (first|refine zAG ?_ _|refine zAI ?_|refine zAH ?_ _));exact BK168.out) hb);have n4_:=aK_ (zAL (by repeat (first|(with_reducible first|exact HB.out|apply zAB|apply zAA|apply zAC|refine zAF ?_ GE168.out)|exact HB.out)) hb);clear HO163;clear HO167;clear BK168;clear HB;have HO163:=n0_;have HO167:=n1_;have HO173:=n2_;have BK168:=n3_;have HB:=n4_;clear n0_ n1_ n2_ n3_ n4_;(try clear hb);(try clear hb2);(try clear hk);(try clear hi);(try clear ho0))|((with_reducible refine zAb (f:=16) rfl ?_);refine goesL_ (some 21) rfl rfl Tryd.func16 (by kernel_rfl) rfl #[.agg #[.string (⟨#[112,108,97,110]⟩:ByteArray),.slice none 0 0,.int .i64 0,.slice none 0 0]] rfl (by (try simp only [List.map_toArray,List.map_cons,List.map_nil]);first|done|rfl|(simp only [List.length_drop,List.length_take];rfl)) ?_;(refine (zAh.calls k (⟨#[112,108,97,110]⟩:ByteArray) _ _ ([]:List (S47)) 0 _ _ ([]:List (S33)) t175 t176 _ ?side1 ?side2 ?side3 ?side4 ?side5 A4.out).mono ?_);(case side1=>(first|(with_reducible exact hG)|((repeat (with_reducible first|exact hG|apply GW.drewN|apply GW.drew|apply GW.alloc));done)|exact GW.below hG (by repeat (first|(with_reducible first|exact HB.out|apply zAB|apply zAA|apply zAC|refine zAF ?_ GE168.out)|exact HB.out))));(case side2=>exact Kd.C_nil _ _);(case side3=>exact Nat.le_refl _);(case side4=>exact Kd.C_nil _ _);(case side5=>exact Nat.le_refl _);rintro e w61 ⟨rfl,hb⟩;refine ⟨_,rfl,?_⟩;have n0_:=aK_ (Kd.R_below (by (with_reducible repeat (first|apply Kd.R_alloc|apply Kd.R_drewN|apply Kd.R_drew));exact HO163.out) hb);have n1_:=aK_ (Kd.S_below (by (with_reducible repeat (first|apply Kd.S_alloc|apply Kd.S_drewN|apply Kd.S_drew));exact HO167.out) hb);have n2_:=aK_ (Kd.R_below (by (with_reducible repeat (first|apply Kd.R_alloc|apply Kd.R_drewN|apply Kd.R_drew));exact HO173.out) hb);have n3_:=aK_ (zAX (g:=gb168) (o:=.cells #[.string t160,.slice Ao56 t161.length co56,.int .i64 t164,.slice Ao57 t165.length co57] 25 (0,0)) (by (with_reducible repeat (first|refine zAG ?_ _|refine zAI ?_|refine zAH ?_ _));exact BK168.out) hb);have n4_:=aK_ (zAL (by repeat (first|(with_reducible first|exact HB.out|apply zAB|apply zAA|apply zAC|refine zAF ?_ GE168.out)|exact HB.out)) hb);clear HO163;clear HO167;clear HO173;clear BK168;clear HB;have HO163:=n0_;have HO167:=n1_;have HO173:=n2_;have BK168:=n3_;have HB:=n4_;clear n0_ n1_ n2_ n3_ n4_;(try clear hb);(try clear hb2);(try clear hk);(try clear hi)))
    go_ret
    exact ⟨by first|rfl|(simp [zAQ,zAP] <;> rfl)|(simp [*,zAQ,zAP] <;> rfl),by repeat (first|(with_reducible first|exact HB.out|apply zAB|apply zAA|apply zAC|refine zAF ?_ GE168.out)|exact HB.out)⟩
  ·rw [if_neg c6] at H
   have c6b0:(t170 == 0)=false:=beq_eq_false_iff_ne.mpr c6
   have c6b1:(t170 != 0)=true:=bne_iff_ne.mpr c6
   obtain rfl:=Option.some.inj H
   go_enter Tryd.func15,Tryd.ntmps15
   go_wp2_with (first|((with_reducible refine zAb (f:=36) rfl ?_);refine goesL_ (some 8) rfl rfl Tryd.func36 (by kernel_rfl) rfl #[] rfl (by (try simp only [List.map_toArray,List.map_cons,List.map_nil]);first|done|rfl|(simp only [List.length_drop,List.length_take];rfl)) ?_;(with_reducible refine (octroilaw05_five.calls  t160 t161 t164 t165 _ A1.out).mono ?_);rintro e w62 ⟨v162,v166,rfl,ho0,ho1,hb⟩;refine ⟨_,rfl,?_⟩;have n0_:=aK_ (Kd.R_lower ho0 (zAK (by repeat (first|(with_reducible first|exact HB.out|apply zAB|apply zAA|apply zAC)|exact HB.out))));have n1_:=aK_ (Kd.S_lower ho1 (zAK (by repeat (first|(with_reducible first|exact HB.out|apply zAB|apply zAA|apply zAC)|exact HB.out))));have n2_:=aK_ (zAL (by repeat (first|(with_reducible first|exact HB.out|apply zAB|apply zAA|apply zAC)|exact HB.out)) hb);clear HB;have HO163:=n0_;have HO167:=n1_;have HB:=n2_;clear n0_ n1_ n2_;(try clear hb);(try clear hb2);(try clear hk);(try clear hi);(try clear ho0);(try clear ho1))|((with_reducible refine zAf (N:=1) rfl ?_);(try (refine gate_guard (by rfl) ?_;dsimp only));refine zAc ?hg (N:=1) ?hd (cs:=#[.string (⟨#[]⟩:ByteArray),.slice none 0 0,.int .i64 0,.slice none 0 0]) (t:=25) ?hr ?_;(case hd=>rfl);(case hg=>rfl);(case hr=>first|(go_simp;done)|(go_simp;rfl));intro gb168 hg w63 hbox hb;have n0_:=aK_ (Kd.R_below (by (with_reducible repeat (first|apply Kd.R_alloc|apply Kd.R_drewN|apply Kd.R_drew));exact HO163.out) hb);have n1_:=aK_ (Kd.S_below (by (with_reducible repeat (first|apply Kd.S_alloc|apply Kd.S_drewN|apply Kd.S_drew));exact HO167.out) hb);have n2_:=aK_ (zAL (by repeat (first|(with_reducible first|exact HB.out|apply zAB|apply zAA|apply zAC)|exact HB.out)) hb);have n3_:=aK_ (hbox);have n4_:=aK_ ((by rw [hg];exact (zAK (by repeat (first|(with_reducible first|exact HB.out|apply zAB|apply zAA|apply zAC)|exact HB.out))):w.heap.size≤gb168));have n5_:=aK_ ((by rw [hg];exact (zAK (by repeat (first|(with_reducible first|exact HB.out|apply zAB|apply zAA|apply zAC)|exact HB.out))):w.heap.size≤gb168));clear HO163;clear HO167;clear HB;have HO163:=n0_;have HO167:=n1_;have HB:=n2_;have BK168:=n3_;have GW168:=n4_;have GE168:=n5_;clear n0_ n1_ n2_ n3_ n4_ n5_;clear hb hbox hg;have hcz64_0:w63.cell? ⟨gb168,0,none⟩=some (.string (⟨#[]⟩:ByteArray)):=(zAE BK168.out 0).trans rfl;have hcz64_1:w63.cell? ⟨gb168,1,none⟩=some (.slice none 0 0):=(zAE BK168.out 1).trans rfl;have hcz64_2:w63.cell? ⟨gb168,2,none⟩=some (.int .i64 0):=(zAE BK168.out 2).trans rfl;have hcz64_3:w63.cell? ⟨gb168,3,none⟩=some (.slice none 0 0):=(zAE BK168.out 3).trans rfl;have hfz64_0:=zAD BK168.out 0;have hfz64_1:=zAD BK168.out 1;have hfz64_2:=zAD BK168.out 2;have hfz64_3:=zAD BK168.out 3;obtain ⟨Ao65,co65,eo65⟩:=Kd.R_slice HO163.out;subst eo65;obtain ⟨Ao66,co66,eo66⟩:=Kd.S_slice HO167.out;subst eo66)|((with_reducible refine zAb (f:=16) rfl ?_);refine goesL_ (some 11) rfl rfl Tryd.func16 (by kernel_rfl) rfl #[.agg #[.string t160,.slice Ao65 t161.length co65,.int .i64 t164,.slice Ao66 t165.length co66]] rfl (by (try simp only [List.map_toArray,List.map_cons,List.map_nil]);first|done|rfl|(simp only [List.length_drop,List.length_take];rfl)) ?_;(with_reducible refine (zAh.calls k t160 _ _ t161 t164 _ _ t165 t169 t170 _ ?side1 ?side2 ?side3 ?side4 ?side5 A2.out).mono ?_);(case side1=>(first|(with_reducible exact hG)|((repeat (with_reducible first|exact hG|apply GW.drewN|apply GW.drew|apply GW.alloc));done)|exact GW.below hG (by repeat (first|(with_reducible first|exact HB.out|apply zAB|apply zAA|apply zAC|refine zAF ?_ GE168.out)|exact HB.out))));(case side2=>refine (Kd.R_reads' (e:=47) (base:=w.heap.size) (ok:=fun k_=>True) (n:=t161.length) (c:=co65) ?_).2.2;exact (by (with_reducible repeat (first|apply Kd.R_alloc|apply Kd.R_drewN|apply Kd.R_drew));exact (Kd.R_mono (Kd.R_far (p:=⟨gb168,3,none⟩) (Kd.R_far (p:=⟨gb168,2,none⟩) (Kd.R_far (p:=⟨gb168,1,none⟩) (Kd.R_far (p:=⟨gb168,0,none⟩) (Kd.R_types HO163.out BK168.out (by decide)) (fun _ hk=>hk.2) (.string t160)) (fun _ hk=>hk.2) (.slice Ao65 t161.length co65)) (fun _ hk=>hk.2) (.int .i64 t164)) (fun _ hk=>hk.2) (.slice Ao66 t165.length co66)) (fun _ h_=>h_.1))));(case side3=>exact (Kd.R_reads' HO163.out).2.1);(case side4=>refine (Kd.S_reads' (e:=33) (base:=w.heap.size) (ok:=fun k_=>True) (n:=t165.length) (c:=co66) ?_).2.2;exact (by (with_reducible repeat (first|apply Kd.S_alloc|apply Kd.S_drewN|apply Kd.S_drew));exact (Kd.S_mono (Kd.S_far (p:=⟨gb168,3,none⟩) (Kd.S_far (p:=⟨gb168,2,none⟩) (Kd.S_far (p:=⟨gb168,1,none⟩) (Kd.S_far (p:=⟨gb168,0,none⟩) (Kd.S_types HO167.out BK168.out (by decide)) (fun _ hk=>hk.2) (.string t160)) (fun _ hk=>hk.2) (.slice Ao65 t161.length co65)) (fun _ hk=>hk.2) (.int .i64 t164)) (fun _ hk=>hk.2) (.slice Ao66 t165.length co66)) (fun _ h_=>h_.1))));(case side5=>exact (Kd.S_reads' HO167.out).2.1);rintro e w67 ⟨rfl,hb⟩;refine ⟨_,rfl,?_⟩;have n0_:=aK_ (Kd.R_below (by (with_reducible repeat (first|apply Kd.R_alloc|apply Kd.R_drewN|apply Kd.R_drew));exact (Kd.R_mono (Kd.R_far (p:=⟨gb168,3,none⟩) (Kd.R_far (p:=⟨gb168,2,none⟩) (Kd.R_far (p:=⟨gb168,1,none⟩) (Kd.R_far (p:=⟨gb168,0,none⟩) (Kd.R_types HO163.out BK168.out (by decide)) (fun _ hk=>hk.2) (.string t160)) (fun _ hk=>hk.2) (.slice Ao65 t161.length co65)) (fun _ hk=>hk.2) (.int .i64 t164)) (fun _ hk=>hk.2) (.slice Ao66 t165.length co66)) (fun _ h_=>h_.1))) hb);have n1_:=aK_ (Kd.S_below (by (with_reducible repeat (first|apply Kd.S_alloc|apply Kd.S_drewN|apply Kd.S_drew));exact (Kd.S_mono (Kd.S_far (p:=⟨gb168,3,none⟩) (Kd.S_far (p:=⟨gb168,2,none⟩) (Kd.S_far (p:=⟨gb168,1,none⟩) (Kd.S_far (p:=⟨gb168,0,none⟩) (Kd.S_types HO167.out BK168.out (by decide)) (fun _ hk=>hk.2) (.string t160)) (fun _ hk=>hk.2) (.slice Ao65 t161.length co65)) (fun _ hk=>hk.2) (.int .i64 t164)) (fun _ hk=>hk.2) (.slice Ao66 t165.length co66)) (fun _ h_=>h_.1))) hb);have n2_:=aK_ (zAX (g:=gb168) (o:=.cells #[.string t160,.slice Ao65 t161.length co65,.int .i64 t164,.slice Ao66 t165.length co66] 25 (0,0)) (by (with_reducible repeat (first|refine zAG ?_ _|refine zAI ?_|refine zAH ?_ _));refine zAi (cs:=#[.string t160,.slice Ao65 t161.length co65,.int .i64 t164,.slice none 0 0]) ?_ 3 _ rfl;(with_reducible repeat (first|refine zAG ?_ _|refine zAI ?_|refine zAH ?_ _));refine zAi (cs:=#[.string t160,.slice Ao65 t161.length co65,.int .i64 0,.slice none 0 0]) ?_ 2 _ rfl;(with_reducible repeat (first|refine zAG ?_ _|refine zAI ?_|refine zAH ?_ _));refine zAi (cs:=#[.string t160,.slice none 0 0,.int .i64 0,.slice none 0 0]) ?_ 1 _ rfl;(with_reducible repeat (first|refine zAG ?_ _|refine zAI ?_|refine zAH ?_ _));refine zAi (cs:=#[.string (⟨#[]⟩:ByteArray),.slice none 0 0,.int .i64 0,.slice none 0 0]) ?_ 0 _ rfl;(with_reducible repeat (first|refine zAG ?_ _|refine zAI ?_|refine zAH ?_ _));exact BK168.out) hb);have n3_:=aK_ (zAL (by repeat (first|(with_reducible first|exact HB.out|apply zAB|apply zAA|apply zAC|refine zAF ?_ GE168.out)|exact HB.out)) hb);clear HO163;clear HO167;clear BK168;clear HB;have HO163:=n0_;have HO167:=n1_;have BK168:=n2_;have HB:=n3_;clear n0_ n1_ n2_ n3_;(try clear hb);(try clear hb2);(try clear hk);(try clear hi);have hcz68_0:w67.cell? ⟨gb168,0,none⟩=some (.string t160):=(zAE BK168.out 0).trans rfl;have hcz68_1:w67.cell? ⟨gb168,1,none⟩=some (.slice Ao65 t161.length co65):=(zAE BK168.out 1).trans rfl;have hcz68_2:w67.cell? ⟨gb168,2,none⟩=some (.int .i64 t164):=(zAE BK168.out 2).trans rfl;have hcz68_3:w67.cell? ⟨gb168,3,none⟩=some (.slice Ao66 t165.length co66):=(zAE BK168.out 3).trans rfl;have hfz68_0:=zAD BK168.out 0;have hfz68_1:=zAD BK168.out 1;have hfz68_2:=zAD BK168.out 2;have hfz68_3:=zAD BK168.out 3)|((with_reducible refine zAb (f:=23) rfl ?_);refine goesL_ (some 16) rfl rfl Tryd.func23 (by kernel_rfl) rfl #[.agg #[.string t160,.slice Ao65 t161.length co65,.int .i64 t164,.slice Ao66 t165.length co66]] rfl (by (try simp only [List.map_toArray,List.map_cons,List.map_nil]);first|done|rfl|(simp only [List.length_drop,List.length_take];rfl)) ?_;(with_reducible refine (tree_Firsts.calls k t160 _ _ t161 t164 _ _ t165 t171 t174 _ ?side1 ?side2 ?side3 ?side4 ?side5 A3.out).mono ?_);(case side1=>(first|(with_reducible exact hG)|((repeat (with_reducible first|exact hG|apply GW.drewN|apply GW.drew|apply GW.alloc));done)|exact GW.below hG (by repeat (first|(with_reducible first|exact HB.out|apply zAB|apply zAA|apply zAC|refine zAF ?_ GE168.out)|exact HB.out))));(case side2=>repeat (first|exact (Kd.R_reads' HO163.out).2.2|(with_reducible refine Kd.C_alloc ?_ _)|(with_reducible refine Kd.C_drewN ?_ _)|(with_reducible refine Kd.C_drew ?_)));(case side3=>exact (Kd.R_reads' HO163.out).2.1);(case side4=>repeat (first|exact (Kd.S_reads' HO167.out).2.2|(with_reducible refine Kd.C_alloc ?_ _)|(with_reducible refine Kd.C_drewN ?_ _)|(with_reducible refine Kd.C_drew ?_)));(case side5=>exact (Kd.S_reads' HO167.out).2.1);rintro e w69 ⟨v172,rfl,ho0,hb⟩;refine ⟨_,rfl,?_⟩;have n0_:=aK_ (Kd.R_below (by (with_reducible repeat (first|apply Kd.R_alloc|apply Kd.R_drewN|apply Kd.R_drew));exact HO163.out) hb);have n1_:=aK_ (Kd.S_below (by (with_reducible repeat (first|apply Kd.S_alloc|apply Kd.S_drewN|apply Kd.S_drew));exact HO167.out) hb);have n2_:=aK_ (Kd.R_lower ho0 (zAK (by repeat (first|(with_reducible first|exact HB.out|apply zAB|apply zAA|apply zAC|refine zAF ?_ GE168.out)|exact HB.out))));have n3_:=aK_ (zAX (g:=gb168) (o:=.cells #[.string t160,.slice Ao65 t161.length co65,.int .i64 t164,.slice Ao66 t165.length co66] 25 (0,0)) (by (with_reducible repeat (first|refine zAG ?_ _|refine zAI ?_|refine zAH ?_ _));exact BK168.out) hb);have n4_:=aK_ (zAL (by repeat (first|(with_reducible first|exact HB.out|apply zAB|apply zAA|apply zAC|refine zAF ?_ GE168.out)|exact HB.out)) hb);clear HO163;clear HO167;clear BK168;clear HB;have HO163:=n0_;have HO167:=n1_;have HO173:=n2_;have BK168:=n3_;have HB:=n4_;clear n0_ n1_ n2_ n3_ n4_;(try clear hb);(try clear hb2);(try clear hk);(try clear hi);(try clear ho0))|((with_reducible refine zAb (f:=16) rfl ?_);refine goesL_ (some 21) rfl rfl Tryd.func16 (by kernel_rfl) rfl #[.agg #[.string (⟨#[112,108,97,110]⟩:ByteArray),.slice none 0 0,.int .i64 0,.slice none 0 0]] rfl (by (try simp only [List.map_toArray,List.map_cons,List.map_nil]);first|done|rfl|(simp only [List.length_drop,List.length_take];rfl)) ?_;(refine (zAh.calls k (⟨#[112,108,97,110]⟩:ByteArray) _ _ ([]:List (S47)) 0 _ _ ([]:List (S33)) t175 t176 _ ?side1 ?side2 ?side3 ?side4 ?side5 A4.out).mono ?_);(case side1=>(first|(with_reducible exact hG)|((repeat (with_reducible first|exact hG|apply GW.drewN|apply GW.drew|apply GW.alloc));done)|exact GW.below hG (by repeat (first|(with_reducible first|exact HB.out|apply zAB|apply zAA|apply zAC|refine zAF ?_ GE168.out)|exact HB.out))));(case side2=>exact Kd.C_nil _ _);(case side3=>exact Nat.le_refl _);(case side4=>exact Kd.C_nil _ _);(case side5=>exact Nat.le_refl _);rintro e w70 ⟨rfl,hb⟩;refine ⟨_,rfl,?_⟩;have n0_:=aK_ (Kd.R_below (by (with_reducible repeat (first|apply Kd.R_alloc|apply Kd.R_drewN|apply Kd.R_drew));exact HO163.out) hb);have n1_:=aK_ (Kd.S_below (by (with_reducible repeat (first|apply Kd.S_alloc|apply Kd.S_drewN|apply Kd.S_drew));exact HO167.out) hb);have n2_:=aK_ (Kd.R_below (by (with_reducible repeat (first|apply Kd.R_alloc|apply Kd.R_drewN|apply Kd.R_drew));exact HO173.out) hb);have n3_:=aK_ (zAX (g:=gb168) (o:=.cells #[.string t160,.slice Ao65 t161.length co65,.int .i64 t164,.slice Ao66 t165.length co66] 25 (0,0)) (by (with_reducible repeat (first|refine zAG ?_ _|refine zAI ?_|refine zAH ?_ _));exact BK168.out) hb);have n4_:=aK_ (zAL (by repeat (first|(with_reducible first|exact HB.out|apply zAB|apply zAA|apply zAC|refine zAF ?_ GE168.out)|exact HB.out)) hb);clear HO163;clear HO167;clear HO173;clear BK168;clear HB;have HO163:=n0_;have HO167:=n1_;have HO173:=n2_;have BK168:=n3_;have HB:=n4_;clear n0_ n1_ n2_ n3_ n4_;(try clear hb);(try clear hb2);(try clear hk);(try clear hi)))
   go_ret
   exact ⟨by first|rfl|(simp [zAQ,zAP] <;> rfl)|(simp [*,zAQ,zAP] <;> rfl),by repeat (first|(with_reducible first|exact HB.out|apply zAB|apply zAA|apply zAC|refine zAF ?_ GE168.out)|exact HB.out)⟩
 ·rw [if_neg c5] at H
  have c5b0:(t169 == 0)=false:=beq_eq_false_iff_ne.mpr c5
  have c5b1:(t169 != 0)=true:=bne_iff_ne.mpr c5
  obtain rfl:=Option.some.inj H
  go_enter Tryd.func15,Tryd.ntmps15
  go_wp2_with (first|((with_reducible refine zAb (f:=36) rfl ?_);refine goesL_ (some 8) rfl rfl Tryd.func36 (by kernel_rfl) rfl #[] rfl (by (try simp only [List.map_toArray,List.map_cons,List.map_nil]);first|done|rfl|(simp only [List.length_drop,List.length_take];rfl)) ?_;(with_reducible refine (octroilaw05_five.calls  t160 t161 t164 t165 _ A1.out).mono ?_);rintro e w71 ⟨v162,v166,rfl,ho0,ho1,hb⟩;refine ⟨_,rfl,?_⟩;have n0_:=aK_ (Kd.R_lower ho0 (zAK (by repeat (first|(with_reducible first|exact HB.out|apply zAB|apply zAA|apply zAC)|exact HB.out))));have n1_:=aK_ (Kd.S_lower ho1 (zAK (by repeat (first|(with_reducible first|exact HB.out|apply zAB|apply zAA|apply zAC)|exact HB.out))));have n2_:=aK_ (zAL (by repeat (first|(with_reducible first|exact HB.out|apply zAB|apply zAA|apply zAC)|exact HB.out)) hb);clear HB;have HO163:=n0_;have HO167:=n1_;have HB:=n2_;clear n0_ n1_ n2_;(try clear hb);(try clear hb2);(try clear hk);(try clear hi);(try clear ho0);(try clear ho1))|((with_reducible refine zAf (N:=1) rfl ?_);(try (refine gate_guard (by rfl) ?_;dsimp only));refine zAc ?hg (N:=1) ?hd (cs:=#[.string (⟨#[]⟩:ByteArray),.slice none 0 0,.int .i64 0,.slice none 0 0]) (t:=25) ?hr ?_;(case hd=>rfl);(case hg=>rfl);(case hr=>first|(go_simp;done)|(go_simp;rfl));intro gb168 hg w72 hbox hb;have n0_:=aK_ (Kd.R_below (by (with_reducible repeat (first|apply Kd.R_alloc|apply Kd.R_drewN|apply Kd.R_drew));exact HO163.out) hb);have n1_:=aK_ (Kd.S_below (by (with_reducible repeat (first|apply Kd.S_alloc|apply Kd.S_drewN|apply Kd.S_drew));exact HO167.out) hb);have n2_:=aK_ (zAL (by repeat (first|(with_reducible first|exact HB.out|apply zAB|apply zAA|apply zAC)|exact HB.out)) hb);have n3_:=aK_ (hbox);have n4_:=aK_ ((by rw [hg];exact (zAK (by repeat (first|(with_reducible first|exact HB.out|apply zAB|apply zAA|apply zAC)|exact HB.out))):w.heap.size≤gb168));have n5_:=aK_ ((by rw [hg];exact (zAK (by repeat (first|(with_reducible first|exact HB.out|apply zAB|apply zAA|apply zAC)|exact HB.out))):w.heap.size≤gb168));clear HO163;clear HO167;clear HB;have HO163:=n0_;have HO167:=n1_;have HB:=n2_;have BK168:=n3_;have GW168:=n4_;have GE168:=n5_;clear n0_ n1_ n2_ n3_ n4_ n5_;clear hb hbox hg;have hcz73_0:w72.cell? ⟨gb168,0,none⟩=some (.string (⟨#[]⟩:ByteArray)):=(zAE BK168.out 0).trans rfl;have hcz73_1:w72.cell? ⟨gb168,1,none⟩=some (.slice none 0 0):=(zAE BK168.out 1).trans rfl;have hcz73_2:w72.cell? ⟨gb168,2,none⟩=some (.int .i64 0):=(zAE BK168.out 2).trans rfl;have hcz73_3:w72.cell? ⟨gb168,3,none⟩=some (.slice none 0 0):=(zAE BK168.out 3).trans rfl;have hfz73_0:=zAD BK168.out 0;have hfz73_1:=zAD BK168.out 1;have hfz73_2:=zAD BK168.out 2;have hfz73_3:=zAD BK168.out 3;obtain ⟨Ao74,co74,eo74⟩:=Kd.R_slice HO163.out;subst eo74;obtain ⟨Ao75,co75,eo75⟩:=Kd.S_slice HO167.out;subst eo75)|((with_reducible refine zAb (f:=16) rfl ?_);refine goesL_ (some 11) rfl rfl Tryd.func16 (by kernel_rfl) rfl #[.agg #[.string t160,.slice Ao74 t161.length co74,.int .i64 t164,.slice Ao75 t165.length co75]] rfl (by (try simp only [List.map_toArray,List.map_cons,List.map_nil]);first|done|rfl|(simp only [List.length_drop,List.length_take];rfl)) ?_;(with_reducible refine (zAh.calls k t160 _ _ t161 t164 _ _ t165 t169 t170 _ ?side1 ?side2 ?side3 ?side4 ?side5 A2.out).mono ?_);(case side1=>(first|(with_reducible exact hG)|((repeat (with_reducible first|exact hG|apply GW.drewN|apply GW.drew|apply GW.alloc));done)|exact GW.below hG (by repeat (first|(with_reducible first|exact HB.out|apply zAB|apply zAA|apply zAC|refine zAF ?_ GE168.out)|exact HB.out))));(case side2=>refine (Kd.R_reads' (e:=47) (base:=w.heap.size) (ok:=fun k_=>True) (n:=t161.length) (c:=co74) ?_).2.2;exact (by (with_reducible repeat (first|apply Kd.R_alloc|apply Kd.R_drewN|apply Kd.R_drew));exact (Kd.R_mono (Kd.R_far (p:=⟨gb168,3,none⟩) (Kd.R_far (p:=⟨gb168,2,none⟩) (Kd.R_far (p:=⟨gb168,1,none⟩) (Kd.R_far (p:=⟨gb168,0,none⟩) (Kd.R_types HO163.out BK168.out (by decide)) (fun _ hk=>hk.2) (.string t160)) (fun _ hk=>hk.2) (.slice Ao74 t161.length co74)) (fun _ hk=>hk.2) (.int .i64 t164)) (fun _ hk=>hk.2) (.slice Ao75 t165.length co75)) (fun _ h_=>h_.1))));(case side3=>exact (Kd.R_reads' HO163.out).2.1);(case side4=>refine (Kd.S_reads' (e:=33) (base:=w.heap.size) (ok:=fun k_=>True) (n:=t165.length) (c:=co75) ?_).2.2;exact (by (with_reducible repeat (first|apply Kd.S_alloc|apply Kd.S_drewN|apply Kd.S_drew));exact (Kd.S_mono (Kd.S_far (p:=⟨gb168,3,none⟩) (Kd.S_far (p:=⟨gb168,2,none⟩) (Kd.S_far (p:=⟨gb168,1,none⟩) (Kd.S_far (p:=⟨gb168,0,none⟩) (Kd.S_types HO167.out BK168.out (by decide)) (fun _ hk=>hk.2) (.string t160)) (fun _ hk=>hk.2) (.slice Ao74 t161.length co74)) (fun _ hk=>hk.2) (.int .i64 t164)) (fun _ hk=>hk.2) (.slice Ao75 t165.length co75)) (fun _ h_=>h_.1))));(case side5=>exact (Kd.S_reads' HO167.out).2.1);rintro e w76 ⟨rfl,hb⟩;refine ⟨_,rfl,?_⟩;have n0_:=aK_ (Kd.R_below (by (with_reducible repeat (first|apply Kd.R_alloc|apply Kd.R_drewN|apply Kd.R_drew));exact (Kd.R_mono (Kd.R_far (p:=⟨gb168,3,none⟩) (Kd.R_far (p:=⟨gb168,2,none⟩) (Kd.R_far (p:=⟨gb168,1,none⟩) (Kd.R_far (p:=⟨gb168,0,none⟩) (Kd.R_types HO163.out BK168.out (by decide)) (fun _ hk=>hk.2) (.string t160)) (fun _ hk=>hk.2) (.slice Ao74 t161.length co74)) (fun _ hk=>hk.2) (.int .i64 t164)) (fun _ hk=>hk.2) (.slice Ao75 t165.length co75)) (fun _ h_=>h_.1))) hb);have n1_:=aK_ (Kd.S_below (by (with_reducible repeat (first|apply Kd.S_alloc|apply Kd.S_drewN|apply Kd.S_drew));exact (Kd.S_mono (Kd.S_far (p:=⟨gb168,3,none⟩) (Kd.S_far (p:=⟨gb168,2,none⟩) (Kd.S_far (p:=⟨gb168,1,none⟩) (Kd.S_far (p:=⟨gb168,0,none⟩) (Kd.S_types HO167.out BK168.out (by decide)) (fun _ hk=>hk.2) (.string t160)) (fun _ hk=>hk.2) (.slice Ao74 t161.length co74)) (fun _ hk=>hk.2) (.int .i64 t164)) (fun _ hk=>hk.2) (.slice Ao75 t165.length co75)) (fun _ h_=>h_.1))) hb);have n2_:=aK_ (zAX (g:=gb168) (o:=.cells #[.string t160,.slice Ao74 t161.length co74,.int .i64 t164,.slice Ao75 t165.length co75] 25 (0,0)) (by (with_reducible repeat (first|refine zAG ?_ _|refine zAI ?_|refine zAH ?_ _));refine zAi (cs:=#[.string t160,.slice Ao74 t161.length co74,.int .i64 t164,.slice none 0 0]) ?_ 3 _ rfl;(with_reducible repeat (first|refine zAG ?_ _|refine zAI ?_|refine zAH ?_ _));refine zAi (cs:=#[.string t160,.slice Ao74 t161.length co74,.int .i64 0,.slice none 0 0]) ?_ 2 _ rfl;(with_reducible repeat (first|refine zAG ?_ _|refine zAI ?_|refine zAH ?_ _));refine zAi (cs:=#[.string t160,.slice none 0 0,.int .i64 0,.slice none 0 0]) ?_ 1 _ rfl;(with_reducible repeat (first|refine zAG ?_ _|refine zAI ?_|refine zAH ?_ _));refine zAi (cs:=#[.string (⟨#[]⟩:ByteArray),.slice none 0 0,.int .i64 0,.slice none 0 0]) ?_ 0 _ rfl;(with_reducible repeat (first|refine zAG ?_ _|refine zAI ?_|refine zAH ?_ _));exact BK168.out) hb);have n3_:=aK_ (zAL (by repeat (first|(with_reducible first|exact HB.out|apply zAB|apply zAA|apply zAC|refine zAF ?_ GE168.out)|exact HB.out)) hb);clear HO163;clear HO167;clear BK168;clear HB;have HO163:=n0_;have HO167:=n1_;have BK168:=n2_;have HB:=n3_;clear n0_ n1_ n2_ n3_;(try clear hb);(try clear hb2);(try clear hk);(try clear hi);have hcz77_0:w76.cell? ⟨gb168,0,none⟩=some (.string t160):=(zAE BK168.out 0).trans rfl;have hcz77_1:w76.cell? ⟨gb168,1,none⟩=some (.slice Ao74 t161.length co74):=(zAE BK168.out 1).trans rfl;have hcz77_2:w76.cell? ⟨gb168,2,none⟩=some (.int .i64 t164):=(zAE BK168.out 2).trans rfl;have hcz77_3:w76.cell? ⟨gb168,3,none⟩=some (.slice Ao75 t165.length co75):=(zAE BK168.out 3).trans rfl;have hfz77_0:=zAD BK168.out 0;have hfz77_1:=zAD BK168.out 1;have hfz77_2:=zAD BK168.out 2;have hfz77_3:=zAD BK168.out 3)|((with_reducible refine zAb (f:=23) rfl ?_);refine goesL_ (some 16) rfl rfl Tryd.func23 (by kernel_rfl) rfl #[.agg #[.string t160,.slice Ao74 t161.length co74,.int .i64 t164,.slice Ao75 t165.length co75]] rfl (by (try simp only [List.map_toArray,List.map_cons,List.map_nil]);first|done|rfl|(simp only [List.length_drop,List.length_take];rfl)) ?_;(with_reducible refine (tree_Firsts.calls k t160 _ _ t161 t164 _ _ t165 t171 t174 _ ?side1 ?side2 ?side3 ?side4 ?side5 A3.out).mono ?_);(case side1=>(first|(with_reducible exact hG)|((repeat (with_reducible first|exact hG|apply GW.drewN|apply GW.drew|apply GW.alloc));done)|exact GW.below hG (by repeat (first|(with_reducible first|exact HB.out|apply zAB|apply zAA|apply zAC|refine zAF ?_ GE168.out)|exact HB.out))));(case side2=>repeat (first|exact (Kd.R_reads' HO163.out).2.2|(with_reducible refine Kd.C_alloc ?_ _)|(with_reducible refine Kd.C_drewN ?_ _)|(with_reducible refine Kd.C_drew ?_)));(case side3=>exact (Kd.R_reads' HO163.out).2.1);(case side4=>repeat (first|exact (Kd.S_reads' HO167.out).2.2|(with_reducible refine Kd.C_alloc ?_ _)|(with_reducible refine Kd.C_drewN ?_ _)|(with_reducible refine Kd.C_drew ?_)));(case side5=>exact (Kd.S_reads' HO167.out).2.1);rintro e w78 ⟨v172,rfl,ho0,hb⟩;refine ⟨_,rfl,?_⟩;have n0_:=aK_ (Kd.R_below (by (with_reducible repeat (first|apply Kd.R_alloc|apply Kd.R_drewN|apply Kd.R_drew));exact HO163.out) hb);have n1_:=aK_ (Kd.S_below (by (with_reducible repeat (first|apply Kd.S_alloc|apply Kd.S_drewN|apply Kd.S_drew));exact HO167.out) hb);have n2_:=aK_ (Kd.R_lower ho0 (zAK (by repeat (first|(with_reducible first|exact HB.out|apply zAB|apply zAA|apply zAC|refine zAF ?_ GE168.out)|exact HB.out))));have n3_:=aK_ (zAX (g:=gb168) (o:=.cells #[.string t160,.slice Ao74 t161.length co74,.int .i64 t164,.slice Ao75 t165.length co75] 25 (0,0)) (by (with_reducible repeat (first|refine zAG ?_ _|refine zAI ?_|refine zAH ?_ _));exact BK168.out) hb);have n4_:=aK_ (zAL (by repeat (first|(with_reducible first|exact HB.out|apply zAB|apply zAA|apply zAC|refine zAF ?_ GE168.out)|exact HB.out)) hb);clear HO163;clear HO167;clear BK168;clear HB;have HO163:=n0_;have HO167:=n1_;have HO173:=n2_;have BK168:=n3_;have HB:=n4_;clear n0_ n1_ n2_ n3_ n4_;(try clear hb);(try clear hb2);(try clear hk);(try clear hi);(try clear ho0))|((with_reducible refine zAb (f:=16) rfl ?_);refine goesL_ (some 21) rfl rfl Tryd.func16 (by kernel_rfl) rfl #[.agg #[.string (⟨#[112,108,97,110]⟩:ByteArray),.slice none 0 0,.int .i64 0,.slice none 0 0]] rfl (by (try simp only [List.map_toArray,List.map_cons,List.map_nil]);first|done|rfl|(simp only [List.length_drop,List.length_take];rfl)) ?_;(refine (zAh.calls k (⟨#[112,108,97,110]⟩:ByteArray) _ _ ([]:List (S47)) 0 _ _ ([]:List (S33)) t175 t176 _ ?side1 ?side2 ?side3 ?side4 ?side5 A4.out).mono ?_);(case side1=>(first|(with_reducible exact hG)|((repeat (with_reducible first|exact hG|apply GW.drewN|apply GW.drew|apply GW.alloc));done)|exact GW.below hG (by repeat (first|(with_reducible first|exact HB.out|apply zAB|apply zAA|apply zAC|refine zAF ?_ GE168.out)|exact HB.out))));(case side2=>exact Kd.C_nil _ _);(case side3=>exact Nat.le_refl _);(case side4=>exact Kd.C_nil _ _);(case side5=>exact Nat.le_refl _);rintro e w79 ⟨rfl,hb⟩;refine ⟨_,rfl,?_⟩;have n0_:=aK_ (Kd.R_below (by (with_reducible repeat (first|apply Kd.R_alloc|apply Kd.R_drewN|apply Kd.R_drew));exact HO163.out) hb);have n1_:=aK_ (Kd.S_below (by (with_reducible repeat (first|apply Kd.S_alloc|apply Kd.S_drewN|apply Kd.S_drew));exact HO167.out) hb);have n2_:=aK_ (Kd.R_below (by (with_reducible repeat (first|apply Kd.R_alloc|apply Kd.R_drewN|apply Kd.R_drew));exact HO173.out) hb);have n3_:=aK_ (zAX (g:=gb168) (o:=.cells #[.string t160,.slice Ao74 t161.length co74,.int .i64 t164,.slice Ao75 t165.length co75] 25 (0,0)) (by (with_reducible repeat (first|refine zAG ?_ _|refine zAI ?_|refine zAH ?_ _));exact BK168.out) hb);have n4_:=aK_ (zAL (by repeat (first|(with_reducible first|exact HB.out|apply zAB|apply zAA|apply zAC|refine zAF ?_ GE168.out)|exact HB.out)) hb);clear HO163;clear HO167;clear HO173;clear BK168;clear HB;have HO163:=n0_;have HO167:=n1_;have HO173:=n2_;have BK168:=n3_;have HB:=n4_;clear n0_ n1_ n2_ n3_ n4_;(try clear hb);(try clear hb2);(try clear hk);(try clear hi)))
  go_ret
  exact ⟨by first|rfl|(simp [zAQ,zAP] <;> rfl)|(simp [*,zAQ,zAP] <;> rfl),by repeat (first|(with_reducible first|exact HB.out|apply zAB|apply zAA|apply zAC|refine zAF ?_ GE168.out)|exact HB.out)⟩
end Go.Proofs.YthbnigjckjkmnaaDoor.S

namespace Go.Proofs.YthbnigjckjkmnaaDoor.S
open Go.RowKit Go.Proofs.YthbnigjckjkmnaaDoorW.PrintWords Go.Proofs.YthbnigjckjkmnaaDoorW.PrintLast Go.Proofs.YthbnigjckjkmnaaDoorW.PrintMore
attribute [local go_sem] max2_int min2_int max_two min_two max_three min_three max_four min_four
def zAg.l0:Nat→List Int→List (S33)→Int→Int→Option (Int × Int)
 |0,_,_,_,_=>none
 |k+1,x6,x20,x21,x22=>if x22<x21 then (if 0≤x22 then (if x22<(x20.length:Int) then ((tree_takes.f ((zAJ x20 x22).f0) ((zAJ x20 x22).f1) ((zAJ x20 x22).f2) ((zAJ x20 x22).f3) ((zAJ x20 x22).f4) ((zAJ x20 x22).f5)).bind fun t496=>(if t496 > 0 then (if 0≤(wrap64 ((x6.length:Int) - t496)) then (if (wrap64 ((x6.length:Int) - t496))≤(x6.length:Int) then ((zAl.f k (x6.drop ((wrap64 ((x6.length:Int) - t496)):Int).toNat)).bind fun t501=>((some (x6.take ((wrap64 ((x6.length:Int) - t496)):Int).toNat:List Int)).bind fun y502=>(if ((zAJ x20 x22).f0)=15 then (if y502.length<17592186044416 then (zAg.l0 k (y502 ++ [wrap64 (t501+1)]) x20 x21 (wrap64 (x22+1))) else (none)) else (if y502.length<17592186044416 then (zAg.l0 k (y502 ++ [t501]) x20 x21 (wrap64 (x22+1))) else (none))))) else (none)) else (none)) else (if ((zAJ x20 x22).f0)=15 then (if x6.length<17592186044416 then (zAg.l0 k (x6 ++ [1]) x20 x21 (wrap64 (x22+1))) else (none)) else (if x6.length<17592186044416 then (zAg.l0 k (x6 ++ [0]) x20 x21 (wrap64 (x22+1))) else (none))))) else (none)) else (none)) else (if 0<(x6.length:Int) then (some (rd x6 0,0)) else (none))
def zAg.f (k:Nat) (a0_0:ByteArray) (l0_1:List (S47)) (a0_2:Int) (l0_3:List (S33)):Option (Int × Int):=(zAh.f k a0_0 l0_1 a0_2 l0_3).bind fun bt491=>(if bt491.2=0 then (zAg.l0 k ([]:List Int) l0_3 (l0_3.length:Int) 0) else (some (0,bt491.2)))
theorem zAg.mono_l:∀ k,(∀ y0 y1 y2 y3,LeO (zAg.l0 k y0 y1 y2 y3) (zAg.l0 (k+1) y0 y1 y2 y3))
 |0=>fun _ _ _ _ r h=>by simp [zAg.l0] at h
 |k+1=>by
  have ih0:=zAg.mono_l k
  ·intro y0 y1 y2 y3
   unfold zAg.l0
   repeat' first
   |(with_reducible exact ih0 _ _ _ _)
   |(with_reducible exact zAl.mono _ _)
   |(with_reducible exact zAh.mono _ _ _ _ _)
   |(with_reducible exact LeO.refl _)
   |(with_reducible exact LeO.none _)
   |(with_reducible refine LeO.ite ?_ ?_)
   |(with_reducible refine LeO.bind ?_ (fun _=>?_))
   |exact ih0 _ _ _ _
   |exact zAl.mono _ _
   |exact zAh.mono _ _ _ _ _
   |exact LeO.none _
   |refine LeO.ite ?_ ?_
   |refine LeO.bind ?_ (fun _=>?_)
theorem zAg.mono:∀ a0 a1 a2 a3 k,LeO (zAg.f k a0 a1 a2 a3) (zAg.f (k+1) a0 a1 a2 a3):=by
 intro a0 a1 a2 a3 k
 have ih0:=zAg.mono_l k
 unfold zAg.f
 repeat' first
   |(with_reducible exact ih0 _ _ _ _)
   |(with_reducible exact zAl.mono _ _)
   |(with_reducible exact zAh.mono _ _ _ _ _)
   |(with_reducible exact LeO.refl _)
   |(with_reducible exact LeO.none _)
   |(with_reducible refine LeO.ite ?_ ?_)
   |(with_reducible refine LeO.bind ?_ (fun _=>?_))
   |exact ih0 _ _ _ _
   |exact zAl.mono _ _
   |exact zAh.mono _ _ _ _ _
   |exact LeO.none _
   |refine LeO.ite ?_ ?_
   |refine LeO.bind ?_ (fun _=>?_)
set_option maxHeartbeats 8000000 in
set_option maxRecDepth 100000 in
theorem zAg.calls (k:Nat) (a0_0:ByteArray) (A0_1:Option Addr) (c0_1:Nat) (l0_1:List (S47)) (a0_2:Int) (A0_3:Option Addr) (c0_3:Nat) (l0_3:List (S33)) (r1:Int) (r2:Int) (w:World) (hG:GW w) (hr0_1:Kd.C k47 w A0_1 l0_1.length l0_1) (hc0_1:l0_1.length≤c0_1) (hr0_3:Kd.C k33 w A0_3 l0_3.length l0_3) (hc0_3:l0_3.length≤c0_3) (h:zAg.f k a0_0 l0_1 a0_2 l0_3=some (r1,r2)) :
  Calls Tryd.prog 30 #[.agg #[.string a0_0,.slice A0_1 l0_1.length c0_1,.int .i64 a0_2,.slice A0_3 l0_3.length c0_3]] w fun e w'=>e = .returned (.tuple #[.int .i64 r1,.int .i64 r2])∧Below w.heap.size w w':=by
 have hu25:=Tryd.underlying25
 have hu33:=Tryd.underlying33
 have HR0_1:=aK_ hr0_1
 have HC0_1:=aK_ hc0_1
 clear hr0_1 hc0_1
 have HR0_3:=aK_ hr0_3
 have HC0_3:=aK_ hc0_3
 clear hr0_3 hc0_3
 have HB:=aK_ (Below.refl w.heap.size w)
 have H:((zAh.f k a0_0 l0_1 a0_2 l0_3).bind fun bt491=>(if bt491.2=0 then (zAg.l0 k ([]:List Int) l0_3 (l0_3.length:Int) 0) else (some (0,bt491.2))))=some (r1,r2):=h
 clear h
 replace H:=Option.bind_eq_some_iff.mp H
 obtain ⟨⟨t491,t492⟩,A20,H⟩:=H
 replace H:(if t492=0 then (zAg.l0 k ([]:List Int) l0_3 (l0_3.length:Int) 0) else (some (0,t492)))=some (r1,r2):=H
 have A2:=aK_ A20
 clear A20
 by_cases c3:t492=0
 ·rw [if_pos c3] at H
  have c3b0:(t492 == 0)=true:=beq_iff_eq.mpr c3
  have c3b1:(t492 != 0)=false:=bne_eq_false_iff_eq.mpr c3
  clear c3
  have H':=aK_ H
  clear H
  go_enter Tryd.func30,Tryd.ntmps30
  go_wp2_with (first|((with_reducible refine zAf (N:=1) rfl ?_);refine zAc ?hg (N:=1) ?hd (cs:=#[.string a0_0,.slice A0_1 l0_1.length c0_1,.int .i64 a0_2,.slice A0_3 l0_3.length c0_3]) (t:=25) ?hr ?_;(case hd=>rfl);(case hg=>rfl);(case hr=>first|(go_simp;done)|(go_simp;rfl));intro gb490 hg w4 hbox hb;have n0_:=aK_ (zAL (by repeat (first|(with_reducible first|exact HB.out|apply zAB|apply zAA|apply zAC)|exact HB.out)) hb);have n1_:=aK_ (hbox);have n2_:=aK_ ((by rw [hg];exact (zAK (by repeat (first|(with_reducible first|exact HB.out|apply zAB|apply zAA|apply zAC)|exact HB.out))):w.heap.size≤gb490));have n3_:=aK_ ((by rw [hg];exact (zAK (by repeat (first|(with_reducible first|exact HB.out|apply zAB|apply zAA|apply zAC)|exact HB.out))):w.heap.size≤gb490));clear HB;have HB:=n0_;have BK490:=n1_;have GW490:=n2_;have GE490:=n3_;clear n0_ n1_ n2_ n3_;clear hb hbox hg;have hcz5_0:w4.cell? ⟨gb490,0,none⟩=some (.string a0_0):=(zAE BK490.out 0).trans rfl;have hcz5_1:w4.cell? ⟨gb490,1,none⟩=some (.slice A0_1 l0_1.length c0_1):=(zAE BK490.out 1).trans rfl;have hcz5_2:w4.cell? ⟨gb490,2,none⟩=some (.int .i64 a0_2):=(zAE BK490.out 2).trans rfl;have hcz5_3:w4.cell? ⟨gb490,3,none⟩=some (.slice A0_3 l0_3.length c0_3):=(zAE BK490.out 3).trans rfl;have hfz5_0:=zAD BK490.out 0;have hfz5_1:=zAD BK490.out 1;have hfz5_2:=zAD BK490.out 2;have hfz5_3:=zAD BK490.out 3)|((with_reducible refine zAb (f:=16) rfl ?_);refine goesL_ (some 13) rfl rfl Tryd.func16 (by kernel_rfl) rfl #[.agg #[.string a0_0,.slice A0_1 l0_1.length c0_1,.int .i64 a0_2,.slice A0_3 l0_3.length c0_3]] rfl (by (try simp only [List.map_toArray,List.map_cons,List.map_nil]);first|done|rfl|(simp only [List.length_drop,List.length_take];rfl)) ?_;(with_reducible refine (zAh.calls k a0_0 _ _ l0_1 a0_2 _ _ l0_3 t491 t492 _ ?side1 ?side2 ?side3 ?side4 ?side5 A2.out).mono ?_);(case side1=>(first|(with_reducible exact hG)|((repeat (with_reducible first|exact hG|apply GW.drewN|apply GW.drew|apply GW.alloc));done)|exact GW.below hG (by repeat (first|(with_reducible first|exact HB.out|apply zAB|apply zAA|apply zAC|refine zAF ?_ GE490.out)|exact HB.out))));(case side2=>repeat (first|exact (Kd.C_below HR0_1.out HB.out)|(with_reducible refine Kd.C_alloc ?_ _)|(with_reducible refine Kd.C_drewN ?_ _)|(with_reducible refine Kd.C_drew ?_)));(case side3=>exact HC0_1.out);(case side4=>repeat (first|exact (Kd.C_below HR0_3.out HB.out)|(with_reducible refine Kd.C_alloc ?_ _)|(with_reducible refine Kd.C_drewN ?_ _)|(with_reducible refine Kd.C_drew ?_)));(case side5=>exact HC0_3.out);rintro e w6 ⟨rfl,hb⟩;refine ⟨_,rfl,?_⟩;have n0_:=aK_ (zAX (g:=gb490) (o:=.cells #[.string a0_0,.slice A0_1 l0_1.length c0_1,.int .i64 a0_2,.slice A0_3 l0_3.length c0_3] 25 (0,0)) (by (with_reducible repeat (first|refine zAG ?_ _|refine zAI ?_|refine zAH ?_ _));exact BK490.out) hb);have n1_:=aK_ (zAL (by repeat (first|(with_reducible first|exact HB.out|apply zAB|apply zAA|apply zAC|refine zAF ?_ GE490.out)|exact HB.out)) hb);clear BK490;clear HB;have BK490:=n0_;have HB:=n1_;clear n0_ n1_;(try clear hb);(try clear hb2);(try clear hk);(try clear hi);have hcz7_0:w6.cell? ⟨gb490,0,none⟩=some (.string a0_0):=(zAE BK490.out 0).trans rfl;have hcz7_1:w6.cell? ⟨gb490,1,none⟩=some (.slice A0_1 l0_1.length c0_1):=(zAE BK490.out 1).trans rfl;have hcz7_2:w6.cell? ⟨gb490,2,none⟩=some (.int .i64 a0_2):=(zAE BK490.out 2).trans rfl;have hcz7_3:w6.cell? ⟨gb490,3,none⟩=some (.slice A0_3 l0_3.length c0_3):=(zAE BK490.out 3).trans rfl;have hfz7_0:=zAD BK490.out 0;have hfz7_1:=zAD BK490.out 1;have hfz7_2:=zAD BK490.out 2;have hfz7_3:=zAD BK490.out 3))
  (try simp only [Act.put,List.setIfInBounds_toArray,List.set_cons_zero,List.set_cons_succ])
  go_loopg [6,22] k (fun kq v6 v22 w'=>∃ (x6_1:List Int) (x22_1:Int),v22 = .int .i64 x22_1∧zAa (zAg.l0 kq x6_1 l0_3 (l0_3.length:Int) x22_1=some (r1,r2))∧zAa (kq≤k)∧zAa (Kd.R (Kd.int .i64) 3 w' w.heap.size (fun _=>True) v6 x6_1)∧zAa (w'.heap[gb490]?=some (.cells #[.string a0_0,(.slice A0_1 l0_1.length c0_1),.int .i64 a0_2,(.slice A0_3 l0_3.length c0_3)] 25 (0,0)))∧zAa (Below w.heap.size w w'))
  case atStart=>exact ⟨(([]:List Int)),(0),(by first|rfl|(simp;done)|(simp [*];done)),H',⟨Nat.le_refl _⟩,⟨by first|exact Kd.R_nil _ _ _ _ _|exact Kd.N_nil _ _ _ _ _|exact Kd.V_nil _ _ _ _ _|exact Kd.Q_nil _ _ _ _ _|exact Kd.S_nil _ _ _ _ _⟩,⟨by (with_reducible repeat (first|refine zAG ?_ _|refine zAI ?_|refine zAH ?_ _));exact BK490.out⟩,⟨by repeat (first|(with_reducible first|exact HB.out|apply zAB|apply zAA|apply zAC|refine zAF ?_ GE490.out)|exact HB.out)⟩⟩
  case round =>
   clear H'
   try clear c1
   try clear p2
   try clear c3
   try clear c3b0
   try clear c3b1
   try clear hcz5_0
   try clear hcz5_1
   try clear hcz5_2
   try clear hcz5_3
   try clear hcz7_0
   try clear hcz7_1
   try clear hcz7_2
   try clear hcz7_3
   try clear hfz5_0
   try clear hfz5_1
   try clear hfz5_2
   try clear hfz5_3
   try clear hfz7_0
   try clear hfz7_1
   try clear hfz7_2
   try clear hfz7_3
   obtain ⟨x6_1,x22_1,rfl,HA,HK1,HO_6,BK490,HB⟩:=hrel
   cases gk with
   |zero=>exact absurd HA.out (by simp [zAg.l0])
   |succ k1 =>
    have H:=HA.out
    clear HA
    simp only [zAg.l0] at H
    by_cases c8:x22_1<(l0_3.length:Int)
    ·rw [if_pos c8] at H
     have c8b0:decide (x22_1<(l0_3.length:Int))=true:=decide_eq_true c8
     clear c8
     by_cases c9:0≤x22_1
     ·rw [if_pos c9] at H
      have c9b0:decide (0≤x22_1)=true:=decide_eq_true c9
      clear c9
      by_cases c10:x22_1<(l0_3.length:Int)
      ·rw [if_pos c10] at H
       have c10b0:decide (x22_1<(l0_3.length:Int))=true:=decide_eq_true c10
       clear c10
       replace H:=Option.bind_eq_some_iff.mp H
       obtain ⟨t496,A110,H⟩:=H
       replace H:(if t496 > 0 then (if 0≤(wrap64 ((x6_1.length:Int) - t496)) then (if (wrap64 ((x6_1.length:Int) - t496))≤(x6_1.length:Int) then ((zAl.f k1 (x6_1.drop ((wrap64 ((x6_1.length:Int) - t496)):Int).toNat)).bind fun t501=>((some (x6_1.take ((wrap64 ((x6_1.length:Int) - t496)):Int).toNat:List Int)).bind fun y502=>(if ((zAJ l0_3 x22_1).f0)=15 then (if y502.length<17592186044416 then (zAg.l0 k1 (y502 ++ [wrap64 (t501+1)]) l0_3 (l0_3.length:Int) (wrap64 (x22_1+1))) else (none)) else (if y502.length<17592186044416 then (zAg.l0 k1 (y502 ++ [t501]) l0_3 (l0_3.length:Int) (wrap64 (x22_1+1))) else (none))))) else (none)) else (none)) else (if ((zAJ l0_3 x22_1).f0)=15 then (if x6_1.length<17592186044416 then (zAg.l0 k1 (x6_1 ++ [1]) l0_3 (l0_3.length:Int) (wrap64 (x22_1+1))) else (none)) else (if x6_1.length<17592186044416 then (zAg.l0 k1 (x6_1 ++ [0]) l0_3 (l0_3.length:Int) (wrap64 (x22_1+1))) else (none))))=some (r1,r2):=H
       have A11:=aK_ A110
       clear A110
       by_cases c12:t496 > 0
       ·rw [if_pos c12] at H
        have c12b0:decide (0<t496)=true:=decide_eq_true c12
        clear c12
        obtain ⟨ji13,hji13⟩:∃ j_:Int,(wrap64 ((x6_1.length:Int) - t496))=j_:=⟨_,rfl⟩
        replace H:(if 0≤(ji13) then (if (ji13)≤(x6_1.length:Int) then ((zAl.f k1 (x6_1.drop ((ji13):Int).toNat)).bind fun t501=>((some (x6_1.take ((ji13):Int).toNat:List Int)).bind fun y502=>(if ((zAJ l0_3 x22_1).f0)=15 then (if y502.length<17592186044416 then (zAg.l0 k1 (y502 ++ [wrap64 (t501+1)]) l0_3 (l0_3.length:Int) (wrap64 (x22_1+1))) else (none)) else (if y502.length<17592186044416 then (zAg.l0 k1 (y502 ++ [t501]) l0_3 (l0_3.length:Int) (wrap64 (x22_1+1))) else (none))))) else (none)) else (none))=some (r1,r2):=by first|(rw [hji13] at H;exact H)|(simp only [hji13] at H ⊢;exact H)
        (try rw [hji13] at A11)
        have hji13w:(IntKind.i64.wrap ((x6_1.length:Int) - t496))=ji13:=(i64_w _).trans hji13
        by_cases c14:0≤(ji13)
        ·rw [if_pos c14] at H
         have c14b0:=eq_true c14
         have c14b1:decide (0≤(ji13))=true:=decide_eq_true c14
         clear c14
         by_cases c15:(ji13)≤(x6_1.length:Int)
         ·rw [if_pos c15] at H
          have c15b0:=eq_true c15
          have c15b1:decide ((ji13)≤(x6_1.length:Int))=true:=decide_eq_true c15
          clear c15
          obtain ⟨y497,hy497⟩:∃ y_:List Int,y_=(x6_1.drop ((ji13):Int).toNat):=⟨_,rfl⟩
          replace H:((zAl.f k1 y497).bind fun t501=>((some (x6_1.take ((ji13):Int).toNat:List Int)).bind fun y502=>(if ((zAJ l0_3 x22_1).f0)=15 then (if y502.length<17592186044416 then (zAg.l0 k1 (y502 ++ [wrap64 (t501+1)]) l0_3 (l0_3.length:Int) (wrap64 (x22_1+1))) else (none)) else (if y502.length<17592186044416 then (zAg.l0 k1 (y502 ++ [t501]) l0_3 (l0_3.length:Int) (wrap64 (x22_1+1))) else (none)))))=some (r1,r2):=by first|(rw [hy497];with_reducible exact H)|(have H2_:=(Option.bind_some _ _).symm.trans H;rw [hy497];with_reducible exact H2_)|(have H2_:=(Option.bind_some _ _).symm.trans H;with_reducible exact H2_)|with_reducible exact H|(rw [hy497];exact H)|exact H
          have Ny497:=aK_ hy497
          clear hy497
          replace H:=Option.bind_eq_some_iff.mp H
          obtain ⟨t501,A160,H⟩:=H
          replace H:((some (x6_1.take ((ji13):Int).toNat:List Int)).bind fun y502=>(if ((zAJ l0_3 x22_1).f0)=15 then (if y502.length<17592186044416 then (zAg.l0 k1 (y502 ++ [wrap64 (t501+1)]) l0_3 (l0_3.length:Int) (wrap64 (x22_1+1))) else (none)) else (if y502.length<17592186044416 then (zAg.l0 k1 (y502 ++ [t501]) l0_3 (l0_3.length:Int) (wrap64 (x22_1+1))) else (none))))=some (r1,r2):=H
          have A16:=aK_ A160
          clear A160
          have c17b0:=eq_true (of_decide_eq_true (by first|(with_reducible assumption)|assumption):(ji13)≤(x6_1.length:Int))
          obtain ⟨y502,hy502⟩:∃ y_:List Int,y_=(x6_1.take ((ji13):Int).toNat):=⟨_,rfl⟩
          replace H:(if ((zAJ l0_3 x22_1).f0)=15 then (if y502.length<17592186044416 then (zAg.l0 k1 (y502 ++ [wrap64 (t501+1)]) l0_3 (l0_3.length:Int) (wrap64 (x22_1+1))) else (none)) else (if y502.length<17592186044416 then (zAg.l0 k1 (y502 ++ [t501]) l0_3 (l0_3.length:Int) (wrap64 (x22_1+1))) else (none)))=some (r1,r2):=by first|(rw [hy502];with_reducible exact H)|(have H2_:=(Option.bind_some _ _).symm.trans H;rw [hy502];with_reducible exact H2_)|(have H2_:=(Option.bind_some _ _).symm.trans H;with_reducible exact H2_)|with_reducible exact H|(rw [hy502];exact H)|exact H
          have Ny502:=aK_ hy502
          clear hy502
          by_cases c18:((zAJ l0_3 x22_1).f0)=15
          ·rw [if_pos c18] at H
           have c18b0:(((zAJ l0_3 x22_1).f0) == 15)=true:=beq_iff_eq.mpr c18
           have c18b1:(((zAJ l0_3 x22_1).f0) != 15)=false:=bne_eq_false_iff_eq.mpr c18
           clear c18
           by_cases c19:y502.length<17592186044416
           ·rw [if_pos c19] at H
            have LMc19:=aK_ c19
            clear c19
            obtain ⟨y505,hy505⟩:∃ y_:List Int,y_=(y502 ++ [wrap64 (t501+1)]):=⟨_,rfl⟩
            replace H:(zAg.l0 k1 y505 l0_3 (l0_3.length:Int) (wrap64 (x22_1+1)))=some (r1,r2):=by first|(rw [hy505];with_reducible exact H)|(have H2_:=(Option.bind_some _ _).symm.trans H;rw [hy505];with_reducible exact H2_)|(have H2_:=(Option.bind_some _ _).symm.trans H;with_reducible exact H2_)|with_reducible exact H|(rw [hy505];exact H)|exact H
            have Ny505:=aK_ hy505
            clear hy505
            have H':=aK_ H
            clear H
            have p494:0≤(x22_1:Int):=of_decide_eq_true (by first|(with_reducible assumption)|assumption)
            have q494:x22_1<(l0_3.length:Int):=of_decide_eq_true (by first|(with_reducible assumption)|assumption)
            obtain ⟨ad494,A494_4,c494_4,e494,hx494_0,hx494_1,hx494_2,hx494_3,hx494_4,hx494_5,hl494_4,hi494_4⟩:=at_T33 HR0_3.out x22_1 p494 q494
            cases e494
            replace hx494_0:=(HB.out.cell (World.block_lt_of_cell? w _ hx494_0)).trans hx494_0
            replace hx494_1:=(HB.out.cell (World.block_lt_of_cell? w _ hx494_1)).trans hx494_1
            replace hx494_2:=(HB.out.cell (World.block_lt_of_cell? w _ hx494_2)).trans hx494_2
            replace hx494_3:=(HB.out.cell (World.block_lt_of_cell? w _ hx494_3)).trans hx494_3
            replace hx494_4:=(HB.out.cell (World.block_lt_of_cell? w _ hx494_4)).trans hx494_4
            replace hx494_5:=(HB.out.cell (World.block_lt_of_cell? w _ hx494_5)).trans hx494_5
            have HR494_4:=aK_ hi494_4
            have HC494_4:=aK_ hl494_4
            clear hi494_4 hl494_4
            replace p494:=eq_true p494
            replace q494:=eq_true q494
            go_wp2_with (first|((with_reducible refine zAf (N:=8) rfl ?_);refine zAc ?hg (N:=8) ?hd (cs:=#[.int .i64 0,.int .i64 0,.int .i64 0,.int .i64 0,.slice none 0 0,.int .i64 0]) (t:=33) ?hr ?_;(case hd=>rfl);(case hg=>rfl);(case hr=>first|(go_simp;done)|(go_simp;rfl));intro gb495 hg w20 hbox hb;have n0_:=aK_ (Kd.R_below (by (with_reducible repeat (first|apply Kd.R_alloc|apply Kd.R_drewN|apply Kd.R_drew));exact HO_6.out) hb);have n1_:=aK_ (zAX (g:=gb490) (o:=.cells #[.string a0_0,.slice A0_1 l0_1.length c0_1,.int .i64 a0_2,.slice (some ad494) l0_3.length c0_3] 25 (0,0)) (by (with_reducible repeat (first|refine zAG ?_ _|refine zAI ?_|refine zAH ?_ _));exact BK490.out) hb);have n2_:=aK_ (zAL (by repeat (first|(with_reducible first|exact HB.out|apply zAB|apply zAA|apply zAC|refine zAF ?_ GE490.out)|exact HB.out)) hb);have n3_:=aK_ (hbox);have n4_:=aK_ ((by rw [hg];exact (zAK (by repeat (first|(with_reducible first|exact HB.out|apply zAB|apply zAA|apply zAC|refine zAF ?_ GE490.out)|exact HB.out))):w.heap.size≤gb495));have n5_:=aK_ ((by rw [hg];exact (zAK (by repeat (first|(with_reducible first|exact HB.out|apply zAB|apply zAA|apply zAC|refine zAF ?_ GE490.out)|exact HB.out))):w.heap.size≤gb495));have n6_:=aK_ ((by rw [hg];exact Nat.ne_of_lt (blk_lt (g:=gb490) (o:=.cells #[.string a0_0,.slice A0_1 l0_1.length c0_1,.int .i64 a0_2,.slice (some ad494) l0_3.length c0_3] 25 (0,0)) (by (with_reducible repeat (first|refine zAG ?_ _|refine zAI ?_|refine zAH ?_ _));exact BK490.out)):gb490≠gb495));have n7_:=aK_ ((by rw [hg];exact Nat.ne_of_gt (blk_lt (g:=gb490) (o:=.cells #[.string a0_0,.slice A0_1 l0_1.length c0_1,.int .i64 a0_2,.slice (some ad494) l0_3.length c0_3] 25 (0,0)) (by (with_reducible repeat (first|refine zAG ?_ _|refine zAI ?_|refine zAH ?_ _));exact BK490.out)):gb495≠gb490));clear HO_6;clear BK490;clear HB;have HO_6:=n0_;have BK490:=n1_;have HB:=n2_;have BK495:=n3_;have GW495:=n4_;have GE495:=n5_;have NB490_495:=n6_;have NB495_490:=n7_;clear n0_ n1_ n2_ n3_ n4_ n5_ n6_ n7_;clear hb hbox hg;have hnb21:=NB495_490.out;have hnc21:=NB490_495.out;have hcz22_0:w20.cell? ⟨gb495,0,none⟩=some (.int .i64 0):=(zAE BK495.out 0).trans rfl;have hcz22_1:w20.cell? ⟨gb495,1,none⟩=some (.int .i64 0):=(zAE BK495.out 1).trans rfl;have hcz22_2:w20.cell? ⟨gb495,2,none⟩=some (.int .i64 0):=(zAE BK495.out 2).trans rfl;have hcz22_3:w20.cell? ⟨gb495,3,none⟩=some (.int .i64 0):=(zAE BK495.out 3).trans rfl;have hcz22_4:w20.cell? ⟨gb495,4,none⟩=some (.slice none 0 0):=(zAE BK495.out 4).trans rfl;have hcz22_5:w20.cell? ⟨gb495,5,none⟩=some (.int .i64 0):=(zAE BK495.out 5).trans rfl;have hfz22_0:=zAD BK495.out 0;have hfz22_1:=zAD BK495.out 1;have hfz22_2:=zAD BK495.out 2;have hfz22_3:=zAD BK495.out 3;have hfz22_4:=zAD BK495.out 4;have hfz22_5:=zAD BK495.out 5)|((with_reducible refine zAb (f:=39) rfl ?_);refine goesL_ (some 27) rfl rfl Tryd.func39 (by kernel_rfl) rfl #[.agg #[.int .i64 ((zAJ l0_3 x22_1).f0),.int .i64 ((zAJ l0_3 x22_1).f1),.int .i64 ((zAJ l0_3 x22_1).f2),.int .i64 ((zAJ l0_3 x22_1).f3),.slice A494_4 ((zAJ l0_3 x22_1).f4).length c494_4,.int .i64 ((zAJ l0_3 x22_1).f5)]] rfl (by (try simp only [List.map_toArray,List.map_cons,List.map_nil]);first|done|rfl|(simp only [List.length_drop,List.length_take];rfl)) ?_;(with_reducible refine (tree_takes.calls ((zAJ l0_3 x22_1).f0) ((zAJ l0_3 x22_1).f1) ((zAJ l0_3 x22_1).f2) ((zAJ l0_3 x22_1).f3) _ _ ((zAJ l0_3 x22_1).f4) ((zAJ l0_3 x22_1).f5) t496 _ ?side1 ?side2 ?side3 A11.out).mono ?_);(case side1=>(first|(with_reducible exact hG)|((repeat (with_reducible first|exact hG|apply GW.drewN|apply GW.drew|apply GW.alloc));done)|exact GW.below hG (by repeat (first|(with_reducible first|exact HB.out|apply zAB|apply zAA|apply zAC|refine zAF ?_ GE490.out|refine zAF ?_ GE495.out)|exact HB.out))));(case side2=>exact Kd.C_below HR494_4.out (by repeat (first|(with_reducible first|exact HB.out|apply zAB|apply zAA|apply zAC|refine zAF ?_ GE490.out|refine zAF ?_ GE495.out)|exact HB.out)));(case side3=>exact HC494_4.out);rintro e w23 ⟨rfl,hb⟩;refine ⟨_,rfl,?_⟩;have n0_:=aK_ (Kd.R_below (by (with_reducible repeat (first|apply Kd.R_alloc|apply Kd.R_drewN|apply Kd.R_drew));exact (Kd.R_mono (Kd.R_far (p:=⟨gb495,5,none⟩) (Kd.R_far (p:=⟨gb495,4,none⟩) (Kd.R_far (p:=⟨gb495,3,none⟩) (Kd.R_far (p:=⟨gb495,2,none⟩) (Kd.R_far (p:=⟨gb495,1,none⟩) (Kd.R_far (p:=⟨gb495,0,none⟩) (Kd.R_types HO_6.out BK495.out (by decide)) (fun _ hk=>hk.2) (.int .i64 ((zAJ l0_3 x22_1).f0))) (fun _ hk=>hk.2) (.int .i64 ((zAJ l0_3 x22_1).f1))) (fun _ hk=>hk.2) (.int .i64 ((zAJ l0_3 x22_1).f2))) (fun _ hk=>hk.2) (.int .i64 ((zAJ l0_3 x22_1).f3))) (fun _ hk=>hk.2) (.slice A494_4 ((zAJ l0_3 x22_1).f4).length c494_4)) (fun _ hk=>hk.2) (.int .i64 ((zAJ l0_3 x22_1).f5))) (fun _ h_=>h_.1))) hb);have n1_:=aK_ (zAX (g:=gb490) (o:=.cells #[.string a0_0,.slice A0_1 l0_1.length c0_1,.int .i64 a0_2,.slice (some ad494) l0_3.length c0_3] 25 (0,0)) (by (with_reducible repeat (first|refine zAG ?_ _|refine zAI ?_|refine zAH ?_ _));refine blk_far ?_ NB490_495.out _;(with_reducible repeat (first|refine zAG ?_ _|refine zAI ?_|refine zAH ?_ _));refine blk_far ?_ NB490_495.out _;(with_reducible repeat (first|refine zAG ?_ _|refine zAI ?_|refine zAH ?_ _));refine blk_far ?_ NB490_495.out _;(with_reducible repeat (first|refine zAG ?_ _|refine zAI ?_|refine zAH ?_ _));refine blk_far ?_ NB490_495.out _;(with_reducible repeat (first|refine zAG ?_ _|refine zAI ?_|refine zAH ?_ _));refine blk_far ?_ NB490_495.out _;(with_reducible repeat (first|refine zAG ?_ _|refine zAI ?_|refine zAH ?_ _));refine blk_far ?_ NB490_495.out _;(with_reducible repeat (first|refine zAG ?_ _|refine zAI ?_|refine zAH ?_ _));exact BK490.out) hb);have n2_:=aK_ (zAX (g:=gb495) (o:=.cells #[.int .i64 ((zAJ l0_3 x22_1).f0),.int .i64 ((zAJ l0_3 x22_1).f1),.int .i64 ((zAJ l0_3 x22_1).f2),.int .i64 ((zAJ l0_3 x22_1).f3),.slice A494_4 ((zAJ l0_3 x22_1).f4).length c494_4,.int .i64 ((zAJ l0_3 x22_1).f5)] 33 (0,0)) (by (with_reducible repeat (first|refine zAG ?_ _|refine zAI ?_|refine zAH ?_ _));refine zAi (cs:=#[.int .i64 ((zAJ l0_3 x22_1).f0),.int .i64 ((zAJ l0_3 x22_1).f1),.int .i64 ((zAJ l0_3 x22_1).f2),.int .i64 ((zAJ l0_3 x22_1).f3),.slice A494_4 ((zAJ l0_3 x22_1).f4).length c494_4,.int .i64 0]) ?_ 5 _ rfl;(with_reducible repeat (first|refine zAG ?_ _|refine zAI ?_|refine zAH ?_ _));refine zAi (cs:=#[.int .i64 ((zAJ l0_3 x22_1).f0),.int .i64 ((zAJ l0_3 x22_1).f1),.int .i64 ((zAJ l0_3 x22_1).f2),.int .i64 ((zAJ l0_3 x22_1).f3),.slice none 0 0,.int .i64 0]) ?_ 4 _ rfl;(with_reducible repeat (first|refine zAG ?_ _|refine zAI ?_|refine zAH ?_ _));refine zAi (cs:=#[.int .i64 ((zAJ l0_3 x22_1).f0),.int .i64 ((zAJ l0_3 x22_1).f1),.int .i64 ((zAJ l0_3 x22_1).f2),.int .i64 0,.slice none 0 0,.int .i64 0]) ?_ 3 _ rfl;(with_reducible repeat (first|refine zAG ?_ _|refine zAI ?_|refine zAH ?_ _));refine zAi (cs:=#[.int .i64 ((zAJ l0_3 x22_1).f0),.int .i64 ((zAJ l0_3 x22_1).f1),.int .i64 0,.int .i64 0,.slice none 0 0,.int .i64 0]) ?_ 2 _ rfl;(with_reducible repeat (first|refine zAG ?_ _|refine zAI ?_|refine zAH ?_ _));refine zAi (cs:=#[.int .i64 ((zAJ l0_3 x22_1).f0),.int .i64 0,.int .i64 0,.int .i64 0,.slice none 0 0,.int .i64 0]) ?_ 1 _ rfl;(with_reducible repeat (first|refine zAG ?_ _|refine zAI ?_|refine zAH ?_ _));refine zAi (cs:=#[.int .i64 0,.int .i64 0,.int .i64 0,.int .i64 0,.slice none 0 0,.int .i64 0]) ?_ 0 _ rfl;(with_reducible repeat (first|refine zAG ?_ _|refine zAI ?_|refine zAH ?_ _));exact BK495.out) hb);have n3_:=aK_ (zAL (by repeat (first|(with_reducible first|exact HB.out|apply zAB|apply zAA|apply zAC|refine zAF ?_ GE490.out|refine zAF ?_ GE495.out)|exact HB.out)) hb);clear HO_6;clear BK490;clear BK495;clear HB;have HO_6:=n0_;have BK490:=n1_;have BK495:=n2_;have HB:=n3_;clear n0_ n1_ n2_ n3_;(try clear hb);(try clear hb2);(try clear hk);(try clear hi);obtain ⟨Ao24,co24,eo24⟩:=Kd.R_slice HO_6.out;subst eo24;have q25:((ji13):Int)≤((x6_1.length:Int):Int):=of_decide_eq_true (by first|(with_reducible assumption)|assumption);obtain ⟨i025,hi025,_,hsz25,_⟩:=info_parts info3;have hroom25:x6_1.length≤co24:=(Kd.R_reads' HO_6.out).2.1;have hC25:Kd.C (Kd.int .i64) _ Ao24 x6_1.length x6_1:=(Kd.R_reads' HO_6.out).2.2;have q025:(0:Int)≤((ji13):Int):=of_decide_eq_true (by first|(with_reducible assumption)|assumption);have hcut25:=cut_from (P:=Tryd.prog) 36 3 .i64 Tryd.underlying36 hi025 1 hsz25 Ao24 x6_1.length co24 (ji13) q025 q25;have hr25:=Kd.C_drop (m:=((ji13):Int).toNat) (c:=co24) hC25 (by omega) hroom25;obtain ⟨A25,hA25⟩:∃ A1,A1=(if co24=((ji13):Int).toNat then Ao24 else (Ao24:Option Addr).map (·.add (((ji13):Int).toNat * 1))):=⟨_,rfl⟩;obtain ⟨c25,hc25⟩:∃ c1,c1=co24 - ((ji13):Int).toNat:=⟨_,rfl⟩;have hy25:y497.length=x6_1.length - ((ji13):Int).toNat:=(by rw [Ny497.out,List.length_drop] <;> omega);rw [show (x6_1).drop ((ji13):Int).toNat=y497 from Ny497.out.symm] at hr25;replace hr25:Kd.C (Kd.int .i64) _ A25 y497.length y497:=(by rw [hA25];exact hr25);rw [← hy25,← hA25,← hc25] at hcut25;have HR500:=aK_ hr25;have HC500:=aK_ (show y497.length≤c25 from by rw [hy25,hc25];exact Nat.sub_le_sub_right hroom25 _);clear hr25 hC25 hroom25 hi025 hsz25 hc25;have KY25:=aK_ hy25;have KA25:=aK_ hA25;clear hy25 hA25;have KL25:=aK_ (show ((ji13):Int).toNat≤x6_1.length from by omega);replace q25:=eq_true q25)|((with_reducible refine zAb (f:=52) rfl ?_);refine goesL_ (some 36) rfl rfl Tryd.func52 (by kernel_rfl) rfl #[.slice A25 y497.length c25] rfl (by (try simp only [List.map_toArray,List.map_cons,List.map_nil]);first|done|rfl|(simp only [List.length_drop,List.length_take];rfl)) ?_;(with_reducible refine (zAl.calls k1 _ _ y497 t501 _ ?side1 ?side2 A16.out).mono ?_);(case side1=>repeat (first|exact (by repeat (first|(with_reducible exact HR500.out)|(with_reducible refine Kd.C_alloc ?_ _)|(with_reducible refine Kd.C_drewN ?_ _)|(with_reducible refine Kd.C_drew ?_)|exact HR500.out))|(with_reducible refine Kd.C_alloc ?_ _)|(with_reducible refine Kd.C_drewN ?_ _)|(with_reducible refine Kd.C_drew ?_)));(case side2=>exact HC500.out);rintro e w26 ⟨rfl,hb⟩;refine ⟨_,rfl,?_⟩;have n0_:=aK_ (Kd.R_below (by (with_reducible repeat (first|apply Kd.R_alloc|apply Kd.R_drewN|apply Kd.R_drew));exact HO_6.out) hb);have n1_:=aK_ (zAX (g:=gb490) (o:=.cells #[.string a0_0,.slice A0_1 l0_1.length c0_1,.int .i64 a0_2,.slice (some ad494) l0_3.length c0_3] 25 (0,0)) (by (with_reducible repeat (first|refine zAG ?_ _|refine zAI ?_|refine zAH ?_ _));exact BK490.out) hb);have n2_:=aK_ (zAX (g:=gb495) (o:=.cells #[.int .i64 ((zAJ l0_3 x22_1).f0),.int .i64 ((zAJ l0_3 x22_1).f1),.int .i64 ((zAJ l0_3 x22_1).f2),.int .i64 ((zAJ l0_3 x22_1).f3),.slice A494_4 ((zAJ l0_3 x22_1).f4).length c494_4,.int .i64 ((zAJ l0_3 x22_1).f5)] 33 (0,0)) (by (with_reducible repeat (first|refine zAG ?_ _|refine zAI ?_|refine zAH ?_ _));exact BK495.out) hb);have n3_:=aK_ (Kd.C_below (by repeat (first|(with_reducible exact HR500.out)|(with_reducible refine Kd.C_alloc ?_ _)|(with_reducible refine Kd.C_drewN ?_ _)|(with_reducible refine Kd.C_drew ?_)|exact HR500.out)) hb);have n4_:=aK_ (zAL (by repeat (first|(with_reducible first|exact HB.out|apply zAB|apply zAA|apply zAC|refine zAF ?_ GE490.out|refine zAF ?_ GE495.out)|exact HB.out)) hb);clear HO_6;clear BK490;clear BK495;clear HR500;clear HB;have HO_6:=n0_;have BK490:=n1_;have BK495:=n2_;have HR500:=n3_;have HB:=n4_;clear n0_ n1_ n2_ n3_ n4_;(try clear hb);(try clear hb2);(try clear hk);(try clear hi);have q27:((ji13):Int)≤((x6_1.length:Int):Int):=of_decide_eq_true (by first|(with_reducible assumption)|assumption);obtain ⟨i027,hi027,_,hsz27,_⟩:=info_parts info3;have hcut27:=cut_to (P:=Tryd.prog) 36 3 .i64 Tryd.underlying36 hi027 Ao24 x6_1.length co24 (ji13) (of_decide_eq_true (by first|(with_reducible assumption)|assumption)) q27 (Kd.R_reads' HO_6.out).2.1;have hr27:=Kd.R_take (m:=((ji13):Int).toNat) HO_6.out (by omega);have hy27:y502.length=((ji13):Int).toNat:=(by rw [Ny502.out,List.length_take];omega);rw [← Ny502.out] at hr27;rw [← hy27] at hr27 hcut27;clear hy27 hi027 hsz27 HO_6;have HO504:=aK_ hr27;clear hr27;replace q27:=eq_true q27;have hcz28_0:w26.cell? ⟨gb495,0,none⟩=some (.int .i64 ((zAJ l0_3 x22_1).f0)):=(zAE BK495.out 0).trans rfl;have hcz28_1:w26.cell? ⟨gb495,1,none⟩=some (.int .i64 ((zAJ l0_3 x22_1).f1)):=(zAE BK495.out 1).trans rfl;have hcz28_2:w26.cell? ⟨gb495,2,none⟩=some (.int .i64 ((zAJ l0_3 x22_1).f2)):=(zAE BK495.out 2).trans rfl;have hcz28_3:w26.cell? ⟨gb495,3,none⟩=some (.int .i64 ((zAJ l0_3 x22_1).f3)):=(zAE BK495.out 3).trans rfl;have hcz28_4:w26.cell? ⟨gb495,4,none⟩=some (.slice A494_4 ((zAJ l0_3 x22_1).f4).length c494_4):=(zAE BK495.out 4).trans rfl;have hcz28_5:w26.cell? ⟨gb495,5,none⟩=some (.int .i64 ((zAJ l0_3 x22_1).f5)):=(zAE BK495.out 5).trans rfl;have hfz28_0:=zAD BK495.out 0;have hfz28_1:=zAD BK495.out 1;have hfz28_2:=zAD BK495.out 2;have hfz28_3:=zAD BK495.out 3;have hfz28_4:=zAD BK495.out 4;have hfz28_5:=zAD BK495.out 5)|((with_reducible refine gate_builtin (b:=.append) (xs:=#[.tmp 48,.tmp 50]) rfl ?_);at_builtin;refine Kd.R_append (Kd.int .i64) (w0:=w) w.heap.size rfl (.tmp 48) (.tmp 50) 36 3 (.int .i64 0) 8 rfl Tryd.underlying36 info3 rfl (by decide) (by omega) (.slice Ao24 y502.length co24) y502 (wrap64 (t501+1)) [.int .i64 (wrap64 (t501+1))] (fun _=>True) (fun _=>False) rfl rfl ?aP (fun _ hk=>hk.elim) ?aF ?aO ?aB ?aS ?aL ?_;(case aP=>exact rfl);(case aB=>exact (by repeat (first|(with_reducible first|exact HB.out|apply zAB|apply zAA|apply zAC|refine zAF ?_ GE490.out|refine zAF ?_ GE495.out)|exact HB.out)));(case aF=>exact (fun _ _=>trivial));(case aO=>exact (by (with_reducible repeat (first|apply Kd.R_alloc|apply Kd.R_drewN|apply Kd.R_drew));exact HO504.out));(case aS=>exact (zAK (by repeat (first|(with_reducible first|exact HB.out|apply zAB|apply zAA|apply zAC|refine zAF ?_ GE490.out|refine zAF ?_ GE495.out)|exact HB.out))));(case aL=>have:=LMc19.out;omega);intro v506 w29 ho hb hg hat;rw [← Ny505.out] at ho;have n0_:=aK_ (blk_grown (g:=gb490) (o:=.cells #[.string a0_0,.slice A0_1 l0_1.length c0_1,.int .i64 a0_2,.slice (some ad494) l0_3.length c0_3] 25 (0,0)) (by (with_reducible repeat (first|refine zAG ?_ _|refine zAI ?_|refine zAH ?_ _));exact BK490.out) hg (Kd.R_ne HO504.out BK490.out (by decide)));have n1_:=aK_ (blk_grown (g:=gb495) (o:=.cells #[.int .i64 ((zAJ l0_3 x22_1).f0),.int .i64 ((zAJ l0_3 x22_1).f1),.int .i64 ((zAJ l0_3 x22_1).f2),.int .i64 ((zAJ l0_3 x22_1).f3),.slice A494_4 ((zAJ l0_3 x22_1).f4).length c494_4,.int .i64 ((zAJ l0_3 x22_1).f5)] 33 (0,0)) (by (with_reducible repeat (first|refine zAG ?_ _|refine zAI ?_|refine zAH ?_ _));exact BK495.out) hg (Kd.R_ne HO504.out BK495.out (by decide)));have n2_:=aK_ (hb);have n3_:=aK_ (ho);clear BK490;clear BK495;clear HB;clear HO504;have BK490:=n0_;have BK495:=n1_;have HB:=n2_;have HO507:=n3_;clear n0_ n1_ n2_ n3_;clear ho hb hg hat))
            go_roundg k1
            case measure=>have:=HK1.out;omega
            case rel=>exact ⟨(y505),(wrap64 (x22_1+1)),(by first|rfl|(simp;done)|(simp [*];done)),H',⟨by have:=HK1.out;omega⟩,⟨by (with_reducible repeat (first|apply Kd.R_alloc|apply Kd.R_drewN|apply Kd.R_drew));exact HO507.out⟩,⟨by (with_reducible repeat (first|refine zAG ?_ _|refine zAI ?_|refine zAH ?_ _));exact BK490.out⟩,⟨by repeat (first|(with_reducible first|exact HB.out|apply zAB|apply zAA|apply zAC|refine zAF ?_ GE490.out|refine zAF ?_ GE495.out)|exact HB.out)⟩⟩
           ·rw [if_neg c19] at H
            exact absurd H (by simp)
          ·rw [if_neg c18] at H
           have c18b0:(((zAJ l0_3 x22_1).f0) == 15)=false:=beq_eq_false_iff_ne.mpr c18
           have c18b1:(((zAJ l0_3 x22_1).f0) != 15)=true:=bne_iff_ne.mpr c18
           by_cases c30:y502.length<17592186044416
           ·rw [if_pos c30] at H
            have LMc30:=aK_ c30
            clear c30
            obtain ⟨y508,hy508⟩:∃ y_:List Int,y_=(y502 ++ [t501]):=⟨_,rfl⟩
            replace H:(zAg.l0 k1 y508 l0_3 (l0_3.length:Int) (wrap64 (x22_1+1)))=some (r1,r2):=by first|(rw [hy508];with_reducible exact H)|(have H2_:=(Option.bind_some _ _).symm.trans H;rw [hy508];with_reducible exact H2_)|(have H2_:=(Option.bind_some _ _).symm.trans H;with_reducible exact H2_)|with_reducible exact H|(rw [hy508];exact H)|exact H
            have Ny508:=aK_ hy508
            clear hy508
            have H':=aK_ H
            clear H
            have p494:0≤(x22_1:Int):=of_decide_eq_true (by first|(with_reducible assumption)|assumption)
            have q494:x22_1<(l0_3.length:Int):=of_decide_eq_true (by first|(with_reducible assumption)|assumption)
            obtain ⟨ad494,A494_4,c494_4,e494,hx494_0,hx494_1,hx494_2,hx494_3,hx494_4,hx494_5,hl494_4,hi494_4⟩:=at_T33 HR0_3.out x22_1 p494 q494
            cases e494
            replace hx494_0:=(HB.out.cell (World.block_lt_of_cell? w _ hx494_0)).trans hx494_0
            replace hx494_1:=(HB.out.cell (World.block_lt_of_cell? w _ hx494_1)).trans hx494_1
            replace hx494_2:=(HB.out.cell (World.block_lt_of_cell? w _ hx494_2)).trans hx494_2
            replace hx494_3:=(HB.out.cell (World.block_lt_of_cell? w _ hx494_3)).trans hx494_3
            replace hx494_4:=(HB.out.cell (World.block_lt_of_cell? w _ hx494_4)).trans hx494_4
            replace hx494_5:=(HB.out.cell (World.block_lt_of_cell? w _ hx494_5)).trans hx494_5
            have HR494_4:=aK_ hi494_4
            have HC494_4:=aK_ hl494_4
            clear hi494_4 hl494_4
            replace p494:=eq_true p494
            replace q494:=eq_true q494
            go_wp2_with (first|((with_reducible refine zAf (N:=8) rfl ?_);refine zAc ?hg (N:=8) ?hd (cs:=#[.int .i64 0,.int .i64 0,.int .i64 0,.int .i64 0,.slice none 0 0,.int .i64 0]) (t:=33) ?hr ?_;(case hd=>rfl);(case hg=>rfl);(case hr=>first|(go_simp;done)|(go_simp;rfl));intro gb495 hg w31 hbox hb;have n0_:=aK_ (Kd.R_below (by (with_reducible repeat (first|apply Kd.R_alloc|apply Kd.R_drewN|apply Kd.R_drew));exact HO_6.out) hb);have n1_:=aK_ (zAX (g:=gb490) (o:=.cells #[.string a0_0,.slice A0_1 l0_1.length c0_1,.int .i64 a0_2,.slice (some ad494) l0_3.length c0_3] 25 (0,0)) (by (with_reducible repeat (first|refine zAG ?_ _|refine zAI ?_|refine zAH ?_ _));exact BK490.out) hb);have n2_:=aK_ (zAL (by repeat (first|(with_reducible first|exact HB.out|apply zAB|apply zAA|apply zAC|refine zAF ?_ GE490.out)|exact HB.out)) hb);have n3_:=aK_ (hbox);have n4_:=aK_ ((by rw [hg];exact (zAK (by repeat (first|(with_reducible first|exact HB.out|apply zAB|apply zAA|apply zAC|refine zAF ?_ GE490.out)|exact HB.out))):w.heap.size≤gb495));have n5_:=aK_ ((by rw [hg];exact (zAK (by repeat (first|(with_reducible first|exact HB.out|apply zAB|apply zAA|apply zAC|refine zAF ?_ GE490.out)|exact HB.out))):w.heap.size≤gb495));have n6_:=aK_ ((by rw [hg];exact Nat.ne_of_lt (blk_lt (g:=gb490) (o:=.cells #[.string a0_0,.slice A0_1 l0_1.length c0_1,.int .i64 a0_2,.slice (some ad494) l0_3.length c0_3] 25 (0,0)) (by (with_reducible repeat (first|refine zAG ?_ _|refine zAI ?_|refine zAH ?_ _));exact BK490.out)):gb490≠gb495));have n7_:=aK_ ((by rw [hg];exact Nat.ne_of_gt (blk_lt (g:=gb490) (o:=.cells #[.string a0_0,.slice A0_1 l0_1.length c0_1,.int .i64 a0_2,.slice (some ad494) l0_3.length c0_3] 25 (0,0)) (by (with_reducible repeat (first|refine zAG ?_ _|refine zAI ?_|refine zAH ?_ _));exact BK490.out)):gb495≠gb490));clear HO_6;clear BK490;clear HB;have HO_6:=n0_;have BK490:=n1_;have HB:=n2_;have BK495:=n3_;have GW495:=n4_;have GE495:=n5_;have NB490_495:=n6_;have NB495_490:=n7_;clear n0_ n1_ n2_ n3_ n4_ n5_ n6_ n7_;clear hb hbox hg;have hnb32:=NB495_490.out;have hnc32:=NB490_495.out;have hcz33_0:w31.cell? ⟨gb495,0,none⟩=some (.int .i64 0):=(zAE BK495.out 0).trans rfl;have hcz33_1:w31.cell? ⟨gb495,1,none⟩=some (.int .i64 0):=(zAE BK495.out 1).trans rfl;have hcz33_2:w31.cell? ⟨gb495,2,none⟩=some (.int .i64 0):=(zAE BK495.out 2).trans rfl;have hcz33_3:w31.cell? ⟨gb495,3,none⟩=some (.int .i64 0):=(zAE BK495.out 3).trans rfl;have hcz33_4:w31.cell? ⟨gb495,4,none⟩=some (.slice none 0 0):=(zAE BK495.out 4).trans rfl;have hcz33_5:w31.cell? ⟨gb495,5,none⟩=some (.int .i64 0):=(zAE BK495.out 5).trans rfl;have hfz33_0:=zAD BK495.out 0;have hfz33_1:=zAD BK495.out 1;have hfz33_2:=zAD BK495.out 2;have hfz33_3:=zAD BK495.out 3;have hfz33_4:=zAD BK495.out 4;have hfz33_5:=zAD BK495.out 5)|((with_reducible refine zAb (f:=39) rfl ?_);refine goesL_ (some 27) rfl rfl Tryd.func39 (by kernel_rfl) rfl #[.agg #[.int .i64 ((zAJ l0_3 x22_1).f0),.int .i64 ((zAJ l0_3 x22_1).f1),.int .i64 ((zAJ l0_3 x22_1).f2),.int .i64 ((zAJ l0_3 x22_1).f3),.slice A494_4 ((zAJ l0_3 x22_1).f4).length c494_4,.int .i64 ((zAJ l0_3 x22_1).f5)]] rfl (by (try simp only [List.map_toArray,List.map_cons,List.map_nil]);first|done|rfl|(simp only [List.length_drop,List.length_take];rfl)) ?_;(with_reducible refine (tree_takes.calls ((zAJ l0_3 x22_1).f0) ((zAJ l0_3 x22_1).f1) ((zAJ l0_3 x22_1).f2) ((zAJ l0_3 x22_1).f3) _ _ ((zAJ l0_3 x22_1).f4) ((zAJ l0_3 x22_1).f5) t496 _ ?side1 ?side2 ?side3 A11.out).mono ?_);(case side1=>(first|(with_reducible exact hG)|((repeat (with_reducible first|exact hG|apply GW.drewN|apply GW.drew|apply GW.alloc));done)|exact GW.below hG (by repeat (first|(with_reducible first|exact HB.out|apply zAB|apply zAA|apply zAC|refine zAF ?_ GE490.out|refine zAF ?_ GE495.out)|exact HB.out))));(case side2=>exact Kd.C_below HR494_4.out (by repeat (first|(with_reducible first|exact HB.out|apply zAB|apply zAA|apply zAC|refine zAF ?_ GE490.out|refine zAF ?_ GE495.out)|exact HB.out)));(case side3=>exact HC494_4.out);rintro e w34 ⟨rfl,hb⟩;refine ⟨_,rfl,?_⟩;have n0_:=aK_ (Kd.R_below (by (with_reducible repeat (first|apply Kd.R_alloc|apply Kd.R_drewN|apply Kd.R_drew));exact (Kd.R_mono (Kd.R_far (p:=⟨gb495,5,none⟩) (Kd.R_far (p:=⟨gb495,4,none⟩) (Kd.R_far (p:=⟨gb495,3,none⟩) (Kd.R_far (p:=⟨gb495,2,none⟩) (Kd.R_far (p:=⟨gb495,1,none⟩) (Kd.R_far (p:=⟨gb495,0,none⟩) (Kd.R_types HO_6.out BK495.out (by decide)) (fun _ hk=>hk.2) (.int .i64 ((zAJ l0_3 x22_1).f0))) (fun _ hk=>hk.2) (.int .i64 ((zAJ l0_3 x22_1).f1))) (fun _ hk=>hk.2) (.int .i64 ((zAJ l0_3 x22_1).f2))) (fun _ hk=>hk.2) (.int .i64 ((zAJ l0_3 x22_1).f3))) (fun _ hk=>hk.2) (.slice A494_4 ((zAJ l0_3 x22_1).f4).length c494_4)) (fun _ hk=>hk.2) (.int .i64 ((zAJ l0_3 x22_1).f5))) (fun _ h_=>h_.1))) hb);have n1_:=aK_ (zAX (g:=gb490) (o:=.cells #[.string a0_0,.slice A0_1 l0_1.length c0_1,.int .i64 a0_2,.slice (some ad494) l0_3.length c0_3] 25 (0,0)) (by (with_reducible repeat (first|refine zAG ?_ _|refine zAI ?_|refine zAH ?_ _));refine blk_far ?_ NB490_495.out _;(with_reducible repeat (first|refine zAG ?_ _|refine zAI ?_|refine zAH ?_ _));refine blk_far ?_ NB490_495.out _;(with_reducible repeat (first|refine zAG ?_ _|refine zAI ?_|refine zAH ?_ _));refine blk_far ?_ NB490_495.out _;(with_reducible repeat (first|refine zAG ?_ _|refine zAI ?_|refine zAH ?_ _));refine blk_far ?_ NB490_495.out _;(with_reducible repeat (first|refine zAG ?_ _|refine zAI ?_|refine zAH ?_ _));refine blk_far ?_ NB490_495.out _;(with_reducible repeat (first|refine zAG ?_ _|refine zAI ?_|refine zAH ?_ _));refine blk_far ?_ NB490_495.out _;(with_reducible repeat (first|refine zAG ?_ _|refine zAI ?_|refine zAH ?_ _));exact BK490.out) hb);have n2_:=aK_ (zAX (g:=gb495) (o:=.cells #[.int .i64 ((zAJ l0_3 x22_1).f0),.int .i64 ((zAJ l0_3 x22_1).f1),.int .i64 ((zAJ l0_3 x22_1).f2),.int .i64 ((zAJ l0_3 x22_1).f3),.slice A494_4 ((zAJ l0_3 x22_1).f4).length c494_4,.int .i64 ((zAJ l0_3 x22_1).f5)] 33 (0,0)) (by (with_reducible repeat (first|refine zAG ?_ _|refine zAI ?_|refine zAH ?_ _));refine zAi (cs:=#[.int .i64 ((zAJ l0_3 x22_1).f0),.int .i64 ((zAJ l0_3 x22_1).f1),.int .i64 ((zAJ l0_3 x22_1).f2),.int .i64 ((zAJ l0_3 x22_1).f3),.slice A494_4 ((zAJ l0_3 x22_1).f4).length c494_4,.int .i64 0]) ?_ 5 _ rfl;(with_reducible repeat (first|refine zAG ?_ _|refine zAI ?_|refine zAH ?_ _));refine zAi (cs:=#[.int .i64 ((zAJ l0_3 x22_1).f0),.int .i64 ((zAJ l0_3 x22_1).f1),.int .i64 ((zAJ l0_3 x22_1).f2),.int .i64 ((zAJ l0_3 x22_1).f3),.slice none 0 0,.int .i64 0]) ?_ 4 _ rfl;(with_reducible repeat (first|refine zAG ?_ _|refine zAI ?_|refine zAH ?_ _));refine zAi (cs:=#[.int .i64 ((zAJ l0_3 x22_1).f0),.int .i64 ((zAJ l0_3 x22_1).f1),.int .i64 ((zAJ l0_3 x22_1).f2),.int .i64 0,.slice none 0 0,.int .i64 0]) ?_ 3 _ rfl;(with_reducible repeat (first|refine zAG ?_ _|refine zAI ?_|refine zAH ?_ _));refine zAi (cs:=#[.int .i64 ((zAJ l0_3 x22_1).f0),.int .i64 ((zAJ l0_3 x22_1).f1),.int .i64 0,.int .i64 0,.slice none 0 0,.int .i64 0]) ?_ 2 _ rfl;(with_reducible repeat (first|refine zAG ?_ _|refine zAI ?_|refine zAH ?_ _));refine zAi (cs:=#[.int .i64 ((zAJ l0_3 x22_1).f0),.int .i64 0,.int .i64 0,.int .i64 0,.slice none 0 0,.int .i64 0]) ?_ 1 _ rfl;(with_reducible repeat (first|refine zAG ?_ _|refine zAI ?_|refine zAH ?_ _));refine zAi (cs:=#[.int .i64 0,.int .i64 0,.int .i64 0,.int .i64 0,.slice none 0 0,.int .i64 0]) ?_ 0 _ rfl;(with_reducible repeat (first|refine zAG ?_ _|refine zAI ?_|refine zAH ?_ _));exact BK495.out) hb);have n3_:=aK_ (zAL (by repeat (first|(with_reducible first|exact HB.out|apply zAB|apply zAA|apply zAC|refine zAF ?_ GE490.out|refine zAF ?_ GE495.out)|exact HB.out)) hb);clear HO_6;clear BK490;clear BK495;clear HB;have HO_6:=n0_;have BK490:=n1_;have BK495:=n2_;have HB:=n3_;clear n0_ n1_ n2_ n3_;(try clear hb);(try clear hb2);(try clear hk);(try clear hi);obtain ⟨Ao35,co35,eo35⟩:=Kd.R_slice HO_6.out;subst eo35;have q36:((ji13):Int)≤((x6_1.length:Int):Int):=of_decide_eq_true (by first|(with_reducible assumption)|assumption);obtain ⟨i036,hi036,_,hsz36,_⟩:=info_parts info3;have hroom36:x6_1.length≤co35:=(Kd.R_reads' HO_6.out).2.1;have hC36:Kd.C (Kd.int .i64) _ Ao35 x6_1.length x6_1:=(Kd.R_reads' HO_6.out).2.2;have q036:(0:Int)≤((ji13):Int):=of_decide_eq_true (by first|(with_reducible assumption)|assumption);have hcut36:=cut_from (P:=Tryd.prog) 36 3 .i64 Tryd.underlying36 hi036 1 hsz36 Ao35 x6_1.length co35 (ji13) q036 q36;have hr36:=Kd.C_drop (m:=((ji13):Int).toNat) (c:=co35) hC36 (by omega) hroom36;obtain ⟨A36,hA36⟩:∃ A1,A1=(if co35=((ji13):Int).toNat then Ao35 else (Ao35:Option Addr).map (·.add (((ji13):Int).toNat * 1))):=⟨_,rfl⟩;obtain ⟨c36,hc36⟩:∃ c1,c1=co35 - ((ji13):Int).toNat:=⟨_,rfl⟩;have hy36:y497.length=x6_1.length - ((ji13):Int).toNat:=(by rw [Ny497.out,List.length_drop] <;> omega);rw [show (x6_1).drop ((ji13):Int).toNat=y497 from Ny497.out.symm] at hr36;replace hr36:Kd.C (Kd.int .i64) _ A36 y497.length y497:=(by rw [hA36];exact hr36);rw [← hy36,← hA36,← hc36] at hcut36;have HR500:=aK_ hr36;have HC500:=aK_ (show y497.length≤c36 from by rw [hy36,hc36];exact Nat.sub_le_sub_right hroom36 _);clear hr36 hC36 hroom36 hi036 hsz36 hc36;have KY36:=aK_ hy36;have KA36:=aK_ hA36;clear hy36 hA36;have KL36:=aK_ (show ((ji13):Int).toNat≤x6_1.length from by omega);replace q36:=eq_true q36)|((with_reducible refine zAb (f:=52) rfl ?_);refine goesL_ (some 36) rfl rfl Tryd.func52 (by kernel_rfl) rfl #[.slice A36 y497.length c36] rfl (by (try simp only [List.map_toArray,List.map_cons,List.map_nil]);first|done|rfl|(simp only [List.length_drop,List.length_take];rfl)) ?_;(with_reducible refine (zAl.calls k1 _ _ y497 t501 _ ?side1 ?side2 A16.out).mono ?_);(case side1=>repeat (first|exact (by repeat (first|(with_reducible exact HR500.out)|(with_reducible refine Kd.C_alloc ?_ _)|(with_reducible refine Kd.C_drewN ?_ _)|(with_reducible refine Kd.C_drew ?_)|exact HR500.out))|(with_reducible refine Kd.C_alloc ?_ _)|(with_reducible refine Kd.C_drewN ?_ _)|(with_reducible refine Kd.C_drew ?_)));(case side2=>exact HC500.out);rintro e w37 ⟨rfl,hb⟩;refine ⟨_,rfl,?_⟩;have n0_:=aK_ (Kd.R_below (by (with_reducible repeat (first|apply Kd.R_alloc|apply Kd.R_drewN|apply Kd.R_drew));exact HO_6.out) hb);have n1_:=aK_ (zAX (g:=gb490) (o:=.cells #[.string a0_0,.slice A0_1 l0_1.length c0_1,.int .i64 a0_2,.slice (some ad494) l0_3.length c0_3] 25 (0,0)) (by (with_reducible repeat (first|refine zAG ?_ _|refine zAI ?_|refine zAH ?_ _));exact BK490.out) hb);have n2_:=aK_ (zAX (g:=gb495) (o:=.cells #[.int .i64 ((zAJ l0_3 x22_1).f0),.int .i64 ((zAJ l0_3 x22_1).f1),.int .i64 ((zAJ l0_3 x22_1).f2),.int .i64 ((zAJ l0_3 x22_1).f3),.slice A494_4 ((zAJ l0_3 x22_1).f4).length c494_4,.int .i64 ((zAJ l0_3 x22_1).f5)] 33 (0,0)) (by (with_reducible repeat (first|refine zAG ?_ _|refine zAI ?_|refine zAH ?_ _));exact BK495.out) hb);have n3_:=aK_ (Kd.C_below (by repeat (first|(with_reducible exact HR500.out)|(with_reducible refine Kd.C_alloc ?_ _)|(with_reducible refine Kd.C_drewN ?_ _)|(with_reducible refine Kd.C_drew ?_)|exact HR500.out)) hb);have n4_:=aK_ (zAL (by repeat (first|(with_reducible first|exact HB.out|apply zAB|apply zAA|apply zAC|refine zAF ?_ GE490.out|refine zAF ?_ GE495.out)|exact HB.out)) hb);clear HO_6;clear BK490;clear BK495;clear HR500;clear HB;have HO_6:=n0_;have BK490:=n1_;have BK495:=n2_;have HR500:=n3_;have HB:=n4_;clear n0_ n1_ n2_ n3_ n4_;(try clear hb);(try clear hb2);(try clear hk);(try clear hi);have q38:((ji13):Int)≤((x6_1.length:Int):Int):=of_decide_eq_true (by first|(with_reducible assumption)|assumption);obtain ⟨i038,hi038,_,hsz38,_⟩:=info_parts info3;have hcut38:=cut_to (P:=Tryd.prog) 36 3 .i64 Tryd.underlying36 hi038 Ao35 x6_1.length co35 (ji13) (of_decide_eq_true (by first|(with_reducible assumption)|assumption)) q38 (Kd.R_reads' HO_6.out).2.1;have hr38:=Kd.R_take (m:=((ji13):Int).toNat) HO_6.out (by omega);have hy38:y502.length=((ji13):Int).toNat:=(by rw [Ny502.out,List.length_take];omega);rw [← Ny502.out] at hr38;rw [← hy38] at hr38 hcut38;clear hy38 hi038 hsz38 HO_6;have HO504:=aK_ hr38;clear hr38;replace q38:=eq_true q38;have hcz39_0:w37.cell? ⟨gb495,0,none⟩=some (.int .i64 ((zAJ l0_3 x22_1).f0)):=(zAE BK495.out 0).trans rfl;have hcz39_1:w37.cell? ⟨gb495,1,none⟩=some (.int .i64 ((zAJ l0_3 x22_1).f1)):=(zAE BK495.out 1).trans rfl;have hcz39_2:w37.cell? ⟨gb495,2,none⟩=some (.int .i64 ((zAJ l0_3 x22_1).f2)):=(zAE BK495.out 2).trans rfl;have hcz39_3:w37.cell? ⟨gb495,3,none⟩=some (.int .i64 ((zAJ l0_3 x22_1).f3)):=(zAE BK495.out 3).trans rfl;have hcz39_4:w37.cell? ⟨gb495,4,none⟩=some (.slice A494_4 ((zAJ l0_3 x22_1).f4).length c494_4):=(zAE BK495.out 4).trans rfl;have hcz39_5:w37.cell? ⟨gb495,5,none⟩=some (.int .i64 ((zAJ l0_3 x22_1).f5)):=(zAE BK495.out 5).trans rfl;have hfz39_0:=zAD BK495.out 0;have hfz39_1:=zAD BK495.out 1;have hfz39_2:=zAD BK495.out 2;have hfz39_3:=zAD BK495.out 3;have hfz39_4:=zAD BK495.out 4;have hfz39_5:=zAD BK495.out 5)|((with_reducible refine gate_builtin (b:=.append) (xs:=#[.tmp 48,.tmp 50]) rfl ?_);at_builtin;refine Kd.R_append (Kd.int .i64) (w0:=w) w.heap.size rfl (.tmp 48) (.tmp 50) 36 3 (.int .i64 0) 8 rfl Tryd.underlying36 info3 rfl (by decide) (by omega) (.slice Ao35 y502.length co35) y502 t501 [.int .i64 t501] (fun _=>True) (fun _=>False) rfl rfl ?aP (fun _ hk=>hk.elim) ?aF ?aO ?aB ?aS ?aL ?_;(case aP=>exact rfl);(case aB=>exact (by repeat (first|(with_reducible first|exact HB.out|apply zAB|apply zAA|apply zAC|refine zAF ?_ GE490.out|refine zAF ?_ GE495.out)|exact HB.out)));(case aF=>exact (fun _ _=>trivial));(case aO=>exact (by (with_reducible repeat (first|apply Kd.R_alloc|apply Kd.R_drewN|apply Kd.R_drew));exact HO504.out));(case aS=>exact (zAK (by repeat (first|(with_reducible first|exact HB.out|apply zAB|apply zAA|apply zAC|refine zAF ?_ GE490.out|refine zAF ?_ GE495.out)|exact HB.out))));(case aL=>have:=LMc30.out;omega);intro v509 w40 ho hb hg hat;rw [← Ny508.out] at ho;have n0_:=aK_ (blk_grown (g:=gb490) (o:=.cells #[.string a0_0,.slice A0_1 l0_1.length c0_1,.int .i64 a0_2,.slice (some ad494) l0_3.length c0_3] 25 (0,0)) (by (with_reducible repeat (first|refine zAG ?_ _|refine zAI ?_|refine zAH ?_ _));exact BK490.out) hg (Kd.R_ne HO504.out BK490.out (by decide)));have n1_:=aK_ (blk_grown (g:=gb495) (o:=.cells #[.int .i64 ((zAJ l0_3 x22_1).f0),.int .i64 ((zAJ l0_3 x22_1).f1),.int .i64 ((zAJ l0_3 x22_1).f2),.int .i64 ((zAJ l0_3 x22_1).f3),.slice A494_4 ((zAJ l0_3 x22_1).f4).length c494_4,.int .i64 ((zAJ l0_3 x22_1).f5)] 33 (0,0)) (by (with_reducible repeat (first|refine zAG ?_ _|refine zAI ?_|refine zAH ?_ _));exact BK495.out) hg (Kd.R_ne HO504.out BK495.out (by decide)));have n2_:=aK_ (hb);have n3_:=aK_ (ho);clear BK490;clear BK495;clear HB;clear HO504;have BK490:=n0_;have BK495:=n1_;have HB:=n2_;have HO510:=n3_;clear n0_ n1_ n2_ n3_;clear ho hb hg hat))
            go_roundg k1
            case measure=>have:=HK1.out;omega
            case rel=>exact ⟨(y508),(wrap64 (x22_1+1)),(by first|rfl|(simp;done)|(simp [*];done)),H',⟨by have:=HK1.out;omega⟩,⟨by (with_reducible repeat (first|apply Kd.R_alloc|apply Kd.R_drewN|apply Kd.R_drew));exact HO510.out⟩,⟨by (with_reducible repeat (first|refine zAG ?_ _|refine zAI ?_|refine zAH ?_ _));exact BK490.out⟩,⟨by repeat (first|(with_reducible first|exact HB.out|apply zAB|apply zAA|apply zAC|refine zAF ?_ GE490.out|refine zAF ?_ GE495.out)|exact HB.out)⟩⟩
           ·rw [if_neg c30] at H
            exact absurd H (by simp)
         ·rw [if_neg c15] at H
          exact absurd H (by simp)
        ·rw [if_neg c14] at H
         exact absurd H (by simp)
       ·rw [if_neg c12] at H
        have c12b0:decide (0<t496)=false:=decide_eq_false c12
        clear c12
        by_cases c41:((zAJ l0_3 x22_1).f0)=15
        ·rw [if_pos c41] at H
         have c41b0:(((zAJ l0_3 x22_1).f0) == 15)=true:=beq_iff_eq.mpr c41
         have c41b1:(((zAJ l0_3 x22_1).f0) != 15)=false:=bne_eq_false_iff_eq.mpr c41
         clear c41
         by_cases c42:x6_1.length<17592186044416
         ·rw [if_pos c42] at H
          have LMc42:=aK_ c42
          clear c42
          obtain ⟨y511,hy511⟩:∃ y_:List Int,y_=(x6_1 ++ [1]):=⟨_,rfl⟩
          replace H:(zAg.l0 k1 y511 l0_3 (l0_3.length:Int) (wrap64 (x22_1+1)))=some (r1,r2):=by first|(rw [hy511];with_reducible exact H)|(have H2_:=(Option.bind_some _ _).symm.trans H;rw [hy511];with_reducible exact H2_)|(have H2_:=(Option.bind_some _ _).symm.trans H;with_reducible exact H2_)|with_reducible exact H|(rw [hy511];exact H)|exact H
          have Ny511:=aK_ hy511
          clear hy511
          have H':=aK_ H
          clear H
          have p494:0≤(x22_1:Int):=of_decide_eq_true (by first|(with_reducible assumption)|assumption)
          have q494:x22_1<(l0_3.length:Int):=of_decide_eq_true (by first|(with_reducible assumption)|assumption)
          obtain ⟨ad494,A494_4,c494_4,e494,hx494_0,hx494_1,hx494_2,hx494_3,hx494_4,hx494_5,hl494_4,hi494_4⟩:=at_T33 HR0_3.out x22_1 p494 q494
          cases e494
          replace hx494_0:=(HB.out.cell (World.block_lt_of_cell? w _ hx494_0)).trans hx494_0
          replace hx494_1:=(HB.out.cell (World.block_lt_of_cell? w _ hx494_1)).trans hx494_1
          replace hx494_2:=(HB.out.cell (World.block_lt_of_cell? w _ hx494_2)).trans hx494_2
          replace hx494_3:=(HB.out.cell (World.block_lt_of_cell? w _ hx494_3)).trans hx494_3
          replace hx494_4:=(HB.out.cell (World.block_lt_of_cell? w _ hx494_4)).trans hx494_4
          replace hx494_5:=(HB.out.cell (World.block_lt_of_cell? w _ hx494_5)).trans hx494_5
          have HR494_4:=aK_ hi494_4
          have HC494_4:=aK_ hl494_4
          clear hi494_4 hl494_4
          replace p494:=eq_true p494
          replace q494:=eq_true q494
          go_wp2_with (first|((with_reducible refine zAf (N:=8) rfl ?_);refine zAc ?hg (N:=8) ?hd (cs:=#[.int .i64 0,.int .i64 0,.int .i64 0,.int .i64 0,.slice none 0 0,.int .i64 0]) (t:=33) ?hr ?_;(case hd=>rfl);(case hg=>rfl);(case hr=>first|(go_simp;done)|(go_simp;rfl));intro gb495 hg w43 hbox hb;have n0_:=aK_ (Kd.R_below (by (with_reducible repeat (first|apply Kd.R_alloc|apply Kd.R_drewN|apply Kd.R_drew));exact HO_6.out) hb);have n1_:=aK_ (zAX (g:=gb490) (o:=.cells #[.string a0_0,.slice A0_1 l0_1.length c0_1,.int .i64 a0_2,.slice (some ad494) l0_3.length c0_3] 25 (0,0)) (by (with_reducible repeat (first|refine zAG ?_ _|refine zAI ?_|refine zAH ?_ _));exact BK490.out) hb);have n2_:=aK_ (zAL (by repeat (first|(with_reducible first|exact HB.out|apply zAB|apply zAA|apply zAC|refine zAF ?_ GE490.out)|exact HB.out)) hb);have n3_:=aK_ (hbox);have n4_:=aK_ ((by rw [hg];exact (zAK (by repeat (first|(with_reducible first|exact HB.out|apply zAB|apply zAA|apply zAC|refine zAF ?_ GE490.out)|exact HB.out))):w.heap.size≤gb495));have n5_:=aK_ ((by rw [hg];exact (zAK (by repeat (first|(with_reducible first|exact HB.out|apply zAB|apply zAA|apply zAC|refine zAF ?_ GE490.out)|exact HB.out))):w.heap.size≤gb495));have n6_:=aK_ ((by rw [hg];exact Nat.ne_of_lt (blk_lt (g:=gb490) (o:=.cells #[.string a0_0,.slice A0_1 l0_1.length c0_1,.int .i64 a0_2,.slice (some ad494) l0_3.length c0_3] 25 (0,0)) (by (with_reducible repeat (first|refine zAG ?_ _|refine zAI ?_|refine zAH ?_ _));exact BK490.out)):gb490≠gb495));have n7_:=aK_ ((by rw [hg];exact Nat.ne_of_gt (blk_lt (g:=gb490) (o:=.cells #[.string a0_0,.slice A0_1 l0_1.length c0_1,.int .i64 a0_2,.slice (some ad494) l0_3.length c0_3] 25 (0,0)) (by (with_reducible repeat (first|refine zAG ?_ _|refine zAI ?_|refine zAH ?_ _));exact BK490.out)):gb495≠gb490));clear HO_6;clear BK490;clear HB;have HO_6:=n0_;have BK490:=n1_;have HB:=n2_;have BK495:=n3_;have GW495:=n4_;have GE495:=n5_;have NB490_495:=n6_;have NB495_490:=n7_;clear n0_ n1_ n2_ n3_ n4_ n5_ n6_ n7_;clear hb hbox hg;have hnb44:=NB495_490.out;have hnc44:=NB490_495.out;have hcz45_0:w43.cell? ⟨gb495,0,none⟩=some (.int .i64 0):=(zAE BK495.out 0).trans rfl;have hcz45_1:w43.cell? ⟨gb495,1,none⟩=some (.int .i64 0):=(zAE BK495.out 1).trans rfl;have hcz45_2:w43.cell? ⟨gb495,2,none⟩=some (.int .i64 0):=(zAE BK495.out 2).trans rfl;have hcz45_3:w43.cell? ⟨gb495,3,none⟩=some (.int .i64 0):=(zAE BK495.out 3).trans rfl;have hcz45_4:w43.cell? ⟨gb495,4,none⟩=some (.slice none 0 0):=(zAE BK495.out 4).trans rfl;have hcz45_5:w43.cell? ⟨gb495,5,none⟩=some (.int .i64 0):=(zAE BK495.out 5).trans rfl;have hfz45_0:=zAD BK495.out 0;have hfz45_1:=zAD BK495.out 1;have hfz45_2:=zAD BK495.out 2;have hfz45_3:=zAD BK495.out 3;have hfz45_4:=zAD BK495.out 4;have hfz45_5:=zAD BK495.out 5)|((with_reducible refine zAb (f:=39) rfl ?_);refine goesL_ (some 27) rfl rfl Tryd.func39 (by kernel_rfl) rfl #[.agg #[.int .i64 ((zAJ l0_3 x22_1).f0),.int .i64 ((zAJ l0_3 x22_1).f1),.int .i64 ((zAJ l0_3 x22_1).f2),.int .i64 ((zAJ l0_3 x22_1).f3),.slice A494_4 ((zAJ l0_3 x22_1).f4).length c494_4,.int .i64 ((zAJ l0_3 x22_1).f5)]] rfl (by (try simp only [List.map_toArray,List.map_cons,List.map_nil]);first|done|rfl|(simp only [List.length_drop,List.length_take];rfl)) ?_;(with_reducible refine (tree_takes.calls ((zAJ l0_3 x22_1).f0) ((zAJ l0_3 x22_1).f1) ((zAJ l0_3 x22_1).f2) ((zAJ l0_3 x22_1).f3) _ _ ((zAJ l0_3 x22_1).f4) ((zAJ l0_3 x22_1).f5) t496 _ ?side1 ?side2 ?side3 A11.out).mono ?_);(case side1=>(first|(with_reducible exact hG)|((repeat (with_reducible first|exact hG|apply GW.drewN|apply GW.drew|apply GW.alloc));done)|exact GW.below hG (by repeat (first|(with_reducible first|exact HB.out|apply zAB|apply zAA|apply zAC|refine zAF ?_ GE490.out|refine zAF ?_ GE495.out)|exact HB.out))));(case side2=>exact Kd.C_below HR494_4.out (by repeat (first|(with_reducible first|exact HB.out|apply zAB|apply zAA|apply zAC|refine zAF ?_ GE490.out|refine zAF ?_ GE495.out)|exact HB.out)));(case side3=>exact HC494_4.out);rintro e w46 ⟨rfl,hb⟩;refine ⟨_,rfl,?_⟩;have n0_:=aK_ (Kd.R_below (by (with_reducible repeat (first|apply Kd.R_alloc|apply Kd.R_drewN|apply Kd.R_drew));exact (Kd.R_mono (Kd.R_far (p:=⟨gb495,5,none⟩) (Kd.R_far (p:=⟨gb495,4,none⟩) (Kd.R_far (p:=⟨gb495,3,none⟩) (Kd.R_far (p:=⟨gb495,2,none⟩) (Kd.R_far (p:=⟨gb495,1,none⟩) (Kd.R_far (p:=⟨gb495,0,none⟩) (Kd.R_types HO_6.out BK495.out (by decide)) (fun _ hk=>hk.2) (.int .i64 ((zAJ l0_3 x22_1).f0))) (fun _ hk=>hk.2) (.int .i64 ((zAJ l0_3 x22_1).f1))) (fun _ hk=>hk.2) (.int .i64 ((zAJ l0_3 x22_1).f2))) (fun _ hk=>hk.2) (.int .i64 ((zAJ l0_3 x22_1).f3))) (fun _ hk=>hk.2) (.slice A494_4 ((zAJ l0_3 x22_1).f4).length c494_4)) (fun _ hk=>hk.2) (.int .i64 ((zAJ l0_3 x22_1).f5))) (fun _ h_=>h_.1))) hb);have n1_:=aK_ (zAX (g:=gb490) (o:=.cells #[.string a0_0,.slice A0_1 l0_1.length c0_1,.int .i64 a0_2,.slice (some ad494) l0_3.length c0_3] 25 (0,0)) (by (with_reducible repeat (first|refine zAG ?_ _|refine zAI ?_|refine zAH ?_ _));refine blk_far ?_ NB490_495.out _;(with_reducible repeat (first|refine zAG ?_ _|refine zAI ?_|refine zAH ?_ _));refine blk_far ?_ NB490_495.out _;(with_reducible repeat (first|refine zAG ?_ _|refine zAI ?_|refine zAH ?_ _));refine blk_far ?_ NB490_495.out _;(with_reducible repeat (first|refine zAG ?_ _|refine zAI ?_|refine zAH ?_ _));refine blk_far ?_ NB490_495.out _;(with_reducible repeat (first|refine zAG ?_ _|refine zAI ?_|refine zAH ?_ _));refine blk_far ?_ NB490_495.out _;(with_reducible repeat (first|refine zAG ?_ _|refine zAI ?_|refine zAH ?_ _));refine blk_far ?_ NB490_495.out _;(with_reducible repeat (first|refine zAG ?_ _|refine zAI ?_|refine zAH ?_ _));exact BK490.out) hb);have n2_:=aK_ (zAX (g:=gb495) (o:=.cells #[.int .i64 ((zAJ l0_3 x22_1).f0),.int .i64 ((zAJ l0_3 x22_1).f1),.int .i64 ((zAJ l0_3 x22_1).f2),.int .i64 ((zAJ l0_3 x22_1).f3),.slice A494_4 ((zAJ l0_3 x22_1).f4).length c494_4,.int .i64 ((zAJ l0_3 x22_1).f5)] 33 (0,0)) (by (with_reducible repeat (first|refine zAG ?_ _|refine zAI ?_|refine zAH ?_ _));refine zAi (cs:=#[.int .i64 ((zAJ l0_3 x22_1).f0),.int .i64 ((zAJ l0_3 x22_1).f1),.int .i64 ((zAJ l0_3 x22_1).f2),.int .i64 ((zAJ l0_3 x22_1).f3),.slice A494_4 ((zAJ l0_3 x22_1).f4).length c494_4,.int .i64 0]) ?_ 5 _ rfl;(with_reducible repeat (first|refine zAG ?_ _|refine zAI ?_|refine zAH ?_ _));refine zAi (cs:=#[.int .i64 ((zAJ l0_3 x22_1).f0),.int .i64 ((zAJ l0_3 x22_1).f1),.int .i64 ((zAJ l0_3 x22_1).f2),.int .i64 ((zAJ l0_3 x22_1).f3),.slice none 0 0,.int .i64 0]) ?_ 4 _ rfl;(with_reducible repeat (first|refine zAG ?_ _|refine zAI ?_|refine zAH ?_ _));refine zAi (cs:=#[.int .i64 ((zAJ l0_3 x22_1).f0),.int .i64 ((zAJ l0_3 x22_1).f1),.int .i64 ((zAJ l0_3 x22_1).f2),.int .i64 0,.slice none 0 0,.int .i64 0]) ?_ 3 _ rfl;(with_reducible repeat (first|refine zAG ?_ _|refine zAI ?_|refine zAH ?_ _));refine zAi (cs:=#[.int .i64 ((zAJ l0_3 x22_1).f0),.int .i64 ((zAJ l0_3 x22_1).f1),.int .i64 0,.int .i64 0,.slice none 0 0,.int .i64 0]) ?_ 2 _ rfl;(with_reducible repeat (first|refine zAG ?_ _|refine zAI ?_|refine zAH ?_ _));refine zAi (cs:=#[.int .i64 ((zAJ l0_3 x22_1).f0),.int .i64 0,.int .i64 0,.int .i64 0,.slice none 0 0,.int .i64 0]) ?_ 1 _ rfl;(with_reducible repeat (first|refine zAG ?_ _|refine zAI ?_|refine zAH ?_ _));refine zAi (cs:=#[.int .i64 0,.int .i64 0,.int .i64 0,.int .i64 0,.slice none 0 0,.int .i64 0]) ?_ 0 _ rfl;(with_reducible repeat (first|refine zAG ?_ _|refine zAI ?_|refine zAH ?_ _));exact BK495.out) hb);have n3_:=aK_ (zAL (by repeat (first|(with_reducible first|exact HB.out|apply zAB|apply zAA|apply zAC|refine zAF ?_ GE490.out|refine zAF ?_ GE495.out)|exact HB.out)) hb);clear HO_6;clear BK490;clear BK495;clear HB;have HO_6:=n0_;have BK490:=n1_;have BK495:=n2_;have HB:=n3_;clear n0_ n1_ n2_ n3_;(try clear hb);(try clear hb2);(try clear hk);(try clear hi);have hcz47_0:w46.cell? ⟨gb495,0,none⟩=some (.int .i64 ((zAJ l0_3 x22_1).f0)):=(zAE BK495.out 0).trans rfl;have hcz47_1:w46.cell? ⟨gb495,1,none⟩=some (.int .i64 ((zAJ l0_3 x22_1).f1)):=(zAE BK495.out 1).trans rfl;have hcz47_2:w46.cell? ⟨gb495,2,none⟩=some (.int .i64 ((zAJ l0_3 x22_1).f2)):=(zAE BK495.out 2).trans rfl;have hcz47_3:w46.cell? ⟨gb495,3,none⟩=some (.int .i64 ((zAJ l0_3 x22_1).f3)):=(zAE BK495.out 3).trans rfl;have hcz47_4:w46.cell? ⟨gb495,4,none⟩=some (.slice A494_4 ((zAJ l0_3 x22_1).f4).length c494_4):=(zAE BK495.out 4).trans rfl;have hcz47_5:w46.cell? ⟨gb495,5,none⟩=some (.int .i64 ((zAJ l0_3 x22_1).f5)):=(zAE BK495.out 5).trans rfl;have hfz47_0:=zAD BK495.out 0;have hfz47_1:=zAD BK495.out 1;have hfz47_2:=zAD BK495.out 2;have hfz47_3:=zAD BK495.out 3;have hfz47_4:=zAD BK495.out 4;have hfz47_5:=zAD BK495.out 5)|((with_reducible refine gate_builtin (b:=.append) (xs:=#[.tmp 48,.tmp 50]) rfl ?_);at_builtin;refine Kd.R_append (Kd.int .i64) (w0:=w) w.heap.size rfl (.tmp 48) (.tmp 50) 36 3 (.int .i64 0) 8 rfl Tryd.underlying36 info3 rfl (by decide) (by omega) u6 x6_1 1 [.int .i64 1] (fun _=>True) (fun _=>False) rfl rfl ?aP (fun _ hk=>hk.elim) ?aF ?aO ?aB ?aS ?aL ?_;(case aP=>exact rfl);(case aB=>exact (by repeat (first|(with_reducible first|exact HB.out|apply zAB|apply zAA|apply zAC|refine zAF ?_ GE490.out|refine zAF ?_ GE495.out)|exact HB.out)));(case aF=>exact (fun _ _=>trivial));(case aO=>exact (by (with_reducible repeat (first|apply Kd.R_alloc|apply Kd.R_drewN|apply Kd.R_drew));exact HO_6.out));(case aS=>exact (zAK (by repeat (first|(with_reducible first|exact HB.out|apply zAB|apply zAA|apply zAC|refine zAF ?_ GE490.out|refine zAF ?_ GE495.out)|exact HB.out))));(case aL=>have:=LMc42.out;omega);intro v512 w48 ho hb hg hat;rw [← Ny511.out] at ho;have n0_:=aK_ (blk_grown (g:=gb490) (o:=.cells #[.string a0_0,.slice A0_1 l0_1.length c0_1,.int .i64 a0_2,.slice (some ad494) l0_3.length c0_3] 25 (0,0)) (by (with_reducible repeat (first|refine zAG ?_ _|refine zAI ?_|refine zAH ?_ _));exact BK490.out) hg (Kd.R_ne HO_6.out BK490.out (by decide)));have n1_:=aK_ (blk_grown (g:=gb495) (o:=.cells #[.int .i64 ((zAJ l0_3 x22_1).f0),.int .i64 ((zAJ l0_3 x22_1).f1),.int .i64 ((zAJ l0_3 x22_1).f2),.int .i64 ((zAJ l0_3 x22_1).f3),.slice A494_4 ((zAJ l0_3 x22_1).f4).length c494_4,.int .i64 ((zAJ l0_3 x22_1).f5)] 33 (0,0)) (by (with_reducible repeat (first|refine zAG ?_ _|refine zAI ?_|refine zAH ?_ _));exact BK495.out) hg (Kd.R_ne HO_6.out BK495.out (by decide)));have n2_:=aK_ (hb);have n3_:=aK_ (ho);clear BK490;clear BK495;clear HB;clear HO_6;have BK490:=n0_;have BK495:=n1_;have HB:=n2_;have HO513:=n3_;clear n0_ n1_ n2_ n3_;clear ho hb hg hat))
          go_roundg k1
          case measure=>have:=HK1.out;omega
          case rel=>exact ⟨(y511),(wrap64 (x22_1+1)),(by first|rfl|(simp;done)|(simp [*];done)),H',⟨by have:=HK1.out;omega⟩,⟨by (with_reducible repeat (first|apply Kd.R_alloc|apply Kd.R_drewN|apply Kd.R_drew));exact HO513.out⟩,⟨by (with_reducible repeat (first|refine zAG ?_ _|refine zAI ?_|refine zAH ?_ _));exact BK490.out⟩,⟨by repeat (first|(with_reducible first|exact HB.out|apply zAB|apply zAA|apply zAC|refine zAF ?_ GE490.out|refine zAF ?_ GE495.out)|exact HB.out)⟩⟩
         ·rw [if_neg c42] at H
          exact absurd H (by simp)
        ·rw [if_neg c41] at H
         have c41b0:(((zAJ l0_3 x22_1).f0) == 15)=false:=beq_eq_false_iff_ne.mpr c41
         have c41b1:(((zAJ l0_3 x22_1).f0) != 15)=true:=bne_iff_ne.mpr c41
         by_cases c49:x6_1.length<17592186044416
         ·rw [if_pos c49] at H
          have LMc49:=aK_ c49
          clear c49
          obtain ⟨y514,hy514⟩:∃ y_:List Int,y_=(x6_1 ++ [0]):=⟨_,rfl⟩
          replace H:(zAg.l0 k1 y514 l0_3 (l0_3.length:Int) (wrap64 (x22_1+1)))=some (r1,r2):=by first|(rw [hy514];with_reducible exact H)|(have H2_:=(Option.bind_some _ _).symm.trans H;rw [hy514];with_reducible exact H2_)|(have H2_:=(Option.bind_some _ _).symm.trans H;with_reducible exact H2_)|with_reducible exact H|(rw [hy514];exact H)|exact H
          have Ny514:=aK_ hy514
          clear hy514
          have H':=aK_ H
          clear H
          have p494:0≤(x22_1:Int):=of_decide_eq_true (by first|(with_reducible assumption)|assumption)
          have q494:x22_1<(l0_3.length:Int):=of_decide_eq_true (by first|(with_reducible assumption)|assumption)
          obtain ⟨ad494,A494_4,c494_4,e494,hx494_0,hx494_1,hx494_2,hx494_3,hx494_4,hx494_5,hl494_4,hi494_4⟩:=at_T33 HR0_3.out x22_1 p494 q494
          cases e494
          replace hx494_0:=(HB.out.cell (World.block_lt_of_cell? w _ hx494_0)).trans hx494_0
          replace hx494_1:=(HB.out.cell (World.block_lt_of_cell? w _ hx494_1)).trans hx494_1
          replace hx494_2:=(HB.out.cell (World.block_lt_of_cell? w _ hx494_2)).trans hx494_2
          replace hx494_3:=(HB.out.cell (World.block_lt_of_cell? w _ hx494_3)).trans hx494_3
          replace hx494_4:=(HB.out.cell (World.block_lt_of_cell? w _ hx494_4)).trans hx494_4
          replace hx494_5:=(HB.out.cell (World.block_lt_of_cell? w _ hx494_5)).trans hx494_5
          have HR494_4:=aK_ hi494_4
          have HC494_4:=aK_ hl494_4
          clear hi494_4 hl494_4
          replace p494:=eq_true p494
          replace q494:=eq_true q494
          go_wp2_with (first|((with_reducible refine zAf (N:=8) rfl ?_);refine zAc ?hg (N:=8) ?hd (cs:=#[.int .i64 0,.int .i64 0,.int .i64 0,.int .i64 0,.slice none 0 0,.int .i64 0]) (t:=33) ?hr ?_;(case hd=>rfl);(case hg=>rfl);(case hr=>first|(go_simp;done)|(go_simp;rfl));intro gb495 hg w50 hbox hb;have n0_:=aK_ (Kd.R_below (by (with_reducible repeat (first|apply Kd.R_alloc|apply Kd.R_drewN|apply Kd.R_drew));exact HO_6.out) hb);have n1_:=aK_ (zAX (g:=gb490) (o:=.cells #[.string a0_0,.slice A0_1 l0_1.length c0_1,.int .i64 a0_2,.slice (some ad494) l0_3.length c0_3] 25 (0,0)) (by (with_reducible repeat (first|refine zAG ?_ _|refine zAI ?_|refine zAH ?_ _));exact BK490.out) hb);have n2_:=aK_ (zAL (by repeat (first|(with_reducible first|exact HB.out|apply zAB|apply zAA|apply zAC|refine zAF ?_ GE490.out)|exact HB.out)) hb);have n3_:=aK_ (hbox);have n4_:=aK_ ((by rw [hg];exact (zAK (by repeat (first|(with_reducible first|exact HB.out|apply zAB|apply zAA|apply zAC|refine zAF ?_ GE490.out)|exact HB.out))):w.heap.size≤gb495));have n5_:=aK_ ((by rw [hg];exact (zAK (by repeat (first|(with_reducible first|exact HB.out|apply zAB|apply zAA|apply zAC|refine zAF ?_ GE490.out)|exact HB.out))):w.heap.size≤gb495));have n6_:=aK_ ((by rw [hg];exact Nat.ne_of_lt (blk_lt (g:=gb490) (o:=.cells #[.string a0_0,.slice A0_1 l0_1.length c0_1,.int .i64 a0_2,.slice (some ad494) l0_3.length c0_3] 25 (0,0)) (by (with_reducible repeat (first|refine zAG ?_ _|refine zAI ?_|refine zAH ?_ _));exact BK490.out)):gb490≠gb495));have n7_:=aK_ ((by rw [hg];exact Nat.ne_of_gt (blk_lt (g:=gb490) (o:=.cells #[.string a0_0,.slice A0_1 l0_1.length c0_1,.int .i64 a0_2,.slice (some ad494) l0_3.length c0_3] 25 (0,0)) (by (with_reducible repeat (first|refine zAG ?_ _|refine zAI ?_|refine zAH ?_ _));exact BK490.out)):gb495≠gb490));clear HO_6;clear BK490;clear HB;have HO_6:=n0_;have BK490:=n1_;have HB:=n2_;have BK495:=n3_;have GW495:=n4_;have GE495:=n5_;have NB490_495:=n6_;have NB495_490:=n7_;clear n0_ n1_ n2_ n3_ n4_ n5_ n6_ n7_;clear hb hbox hg;have hnb51:=NB495_490.out;have hnc51:=NB490_495.out;have hcz52_0:w50.cell? ⟨gb495,0,none⟩=some (.int .i64 0):=(zAE BK495.out 0).trans rfl;have hcz52_1:w50.cell? ⟨gb495,1,none⟩=some (.int .i64 0):=(zAE BK495.out 1).trans rfl;have hcz52_2:w50.cell? ⟨gb495,2,none⟩=some (.int .i64 0):=(zAE BK495.out 2).trans rfl;have hcz52_3:w50.cell? ⟨gb495,3,none⟩=some (.int .i64 0):=(zAE BK495.out 3).trans rfl;have hcz52_4:w50.cell? ⟨gb495,4,none⟩=some (.slice none 0 0):=(zAE BK495.out 4).trans rfl;have hcz52_5:w50.cell? ⟨gb495,5,none⟩=some (.int .i64 0):=(zAE BK495.out 5).trans rfl;have hfz52_0:=zAD BK495.out 0;have hfz52_1:=zAD BK495.out 1;have hfz52_2:=zAD BK495.out 2;have hfz52_3:=zAD BK495.out 3;have hfz52_4:=zAD BK495.out 4;have hfz52_5:=zAD BK495.out 5)|((with_reducible refine zAb (f:=39) rfl ?_);refine goesL_ (some 27) rfl rfl Tryd.func39 (by kernel_rfl) rfl #[.agg #[.int .i64 ((zAJ l0_3 x22_1).f0),.int .i64 ((zAJ l0_3 x22_1).f1),.int .i64 ((zAJ l0_3 x22_1).f2),.int .i64 ((zAJ l0_3 x22_1).f3),.slice A494_4 ((zAJ l0_3 x22_1).f4).length c494_4,.int .i64 ((zAJ l0_3 x22_1).f5)]] rfl (by (try simp only [List.map_toArray,List.map_cons,List.map_nil]);first|done|rfl|(simp only [List.length_drop,List.length_take];rfl)) ?_;(with_reducible refine (tree_takes.calls ((zAJ l0_3 x22_1).f0) ((zAJ l0_3 x22_1).f1) ((zAJ l0_3 x22_1).f2) ((zAJ l0_3 x22_1).f3) _ _ ((zAJ l0_3 x22_1).f4) ((zAJ l0_3 x22_1).f5) t496 _ ?side1 ?side2 ?side3 A11.out).mono ?_);(case side1=>(first|(with_reducible exact hG)|((repeat (with_reducible first|exact hG|apply GW.drewN|apply GW.drew|apply GW.alloc));done)|exact GW.below hG (by repeat (first|(with_reducible first|exact HB.out|apply zAB|apply zAA|apply zAC|refine zAF ?_ GE490.out|refine zAF ?_ GE495.out)|exact HB.out))));(case side2=>exact Kd.C_below HR494_4.out (by repeat (first|(with_reducible first|exact HB.out|apply zAB|apply zAA|apply zAC|refine zAF ?_ GE490.out|refine zAF ?_ GE495.out)|exact HB.out)));(case side3=>exact HC494_4.out);rintro e w53 ⟨rfl,hb⟩;refine ⟨_,rfl,?_⟩;have n0_:=aK_ (Kd.R_below (by (with_reducible repeat (first|apply Kd.R_alloc|apply Kd.R_drewN|apply Kd.R_drew));exact (Kd.R_mono (Kd.R_far (p:=⟨gb495,5,none⟩) (Kd.R_far (p:=⟨gb495,4,none⟩) (Kd.R_far (p:=⟨gb495,3,none⟩) (Kd.R_far (p:=⟨gb495,2,none⟩) (Kd.R_far (p:=⟨gb495,1,none⟩) (Kd.R_far (p:=⟨gb495,0,none⟩) (Kd.R_types HO_6.out BK495.out (by decide)) (fun _ hk=>hk.2) (.int .i64 ((zAJ l0_3 x22_1).f0))) (fun _ hk=>hk.2) (.int .i64 ((zAJ l0_3 x22_1).f1))) (fun _ hk=>hk.2) (.int .i64 ((zAJ l0_3 x22_1).f2))) (fun _ hk=>hk.2) (.int .i64 ((zAJ l0_3 x22_1).f3))) (fun _ hk=>hk.2) (.slice A494_4 ((zAJ l0_3 x22_1).f4).length c494_4)) (fun _ hk=>hk.2) (.int .i64 ((zAJ l0_3 x22_1).f5))) (fun _ h_=>h_.1))) hb);have n1_:=aK_ (zAX (g:=gb490) (o:=.cells #[.string a0_0,.slice A0_1 l0_1.length c0_1,.int .i64 a0_2,.slice (some ad494) l0_3.length c0_3] 25 (0,0)) (by (with_reducible repeat (first|refine zAG ?_ _|refine zAI ?_|refine zAH ?_ _));refine blk_far ?_ NB490_495.out _;(with_reducible repeat (first|refine zAG ?_ _|refine zAI ?_|refine zAH ?_ _));refine blk_far ?_ NB490_495.out _;(with_reducible repeat (first|refine zAG ?_ _|refine zAI ?_|refine zAH ?_ _));refine blk_far ?_ NB490_495.out _;(with_reducible repeat (first|refine zAG ?_ _|refine zAI ?_|refine zAH ?_ _));refine blk_far ?_ NB490_495.out _;(with_reducible repeat (first|refine zAG ?_ _|refine zAI ?_|refine zAH ?_ _));refine blk_far ?_ NB490_495.out _;(with_reducible repeat (first|refine zAG ?_ _|refine zAI ?_|refine zAH ?_ _));refine blk_far ?_ NB490_495.out _;(with_reducible repeat (first|refine zAG ?_ _|refine zAI ?_|refine zAH ?_ _));exact BK490.out) hb);have n2_:=aK_ (zAX (g:=gb495) (o:=.cells #[.int .i64 ((zAJ l0_3 x22_1).f0),.int .i64 ((zAJ l0_3 x22_1).f1),.int .i64 ((zAJ l0_3 x22_1).f2),.int .i64 ((zAJ l0_3 x22_1).f3),.slice A494_4 ((zAJ l0_3 x22_1).f4).length c494_4,.int .i64 ((zAJ l0_3 x22_1).f5)] 33 (0,0)) (by (with_reducible repeat (first|refine zAG ?_ _|refine zAI ?_|refine zAH ?_ _));refine zAi (cs:=#[.int .i64 ((zAJ l0_3 x22_1).f0),.int .i64 ((zAJ l0_3 x22_1).f1),.int .i64 ((zAJ l0_3 x22_1).f2),.int .i64 ((zAJ l0_3 x22_1).f3),.slice A494_4 ((zAJ l0_3 x22_1).f4).length c494_4,.int .i64 0]) ?_ 5 _ rfl;(with_reducible repeat (first|refine zAG ?_ _|refine zAI ?_|refine zAH ?_ _));refine zAi (cs:=#[.int .i64 ((zAJ l0_3 x22_1).f0),.int .i64 ((zAJ l0_3 x22_1).f1),.int .i64 ((zAJ l0_3 x22_1).f2),.int .i64 ((zAJ l0_3 x22_1).f3),.slice none 0 0,.int .i64 0]) ?_ 4 _ rfl;(with_reducible repeat (first|refine zAG ?_ _|refine zAI ?_|refine zAH ?_ _));refine zAi (cs:=#[.int .i64 ((zAJ l0_3 x22_1).f0),.int .i64 ((zAJ l0_3 x22_1).f1),.int .i64 ((zAJ l0_3 x22_1).f2),.int .i64 0,.slice none 0 0,.int .i64 0]) ?_ 3 _ rfl;(with_reducible repeat (first|refine zAG ?_ _|refine zAI ?_|refine zAH ?_ _));refine zAi (cs:=#[.int .i64 ((zAJ l0_3 x22_1).f0),.int .i64 ((zAJ l0_3 x22_1).f1),.int .i64 0,.int .i64 0,.slice none 0 0,.int .i64 0]) ?_ 2 _ rfl;(with_reducible repeat (first|refine zAG ?_ _|refine zAI ?_|refine zAH ?_ _));refine zAi (cs:=#[.int .i64 ((zAJ l0_3 x22_1).f0),.int .i64 0,.int .i64 0,.int .i64 0,.slice none 0 0,.int .i64 0]) ?_ 1 _ rfl;(with_reducible repeat (first|refine zAG ?_ _|refine zAI ?_|refine zAH ?_ _));refine zAi (cs:=#[.int .i64 0,.int .i64 0,.int .i64 0,.int .i64 0,.slice none 0 0,.int .i64 0]) ?_ 0 _ rfl;(with_reducible repeat (first|refine zAG ?_ _|refine zAI ?_|refine zAH ?_ _));exact BK495.out) hb);have n3_:=aK_ (zAL (by repeat (first|(with_reducible first|exact HB.out|apply zAB|apply zAA|apply zAC|refine zAF ?_ GE490.out|refine zAF ?_ GE495.out)|exact HB.out)) hb);clear HO_6;clear BK490;clear BK495;clear HB;have HO_6:=n0_;have BK490:=n1_;have BK495:=n2_;have HB:=n3_;clear n0_ n1_ n2_ n3_;(try clear hb);(try clear hb2);(try clear hk);(try clear hi);have hcz54_0:w53.cell? ⟨gb495,0,none⟩=some (.int .i64 ((zAJ l0_3 x22_1).f0)):=(zAE BK495.out 0).trans rfl;have hcz54_1:w53.cell? ⟨gb495,1,none⟩=some (.int .i64 ((zAJ l0_3 x22_1).f1)):=(zAE BK495.out 1).trans rfl;have hcz54_2:w53.cell? ⟨gb495,2,none⟩=some (.int .i64 ((zAJ l0_3 x22_1).f2)):=(zAE BK495.out 2).trans rfl;have hcz54_3:w53.cell? ⟨gb495,3,none⟩=some (.int .i64 ((zAJ l0_3 x22_1).f3)):=(zAE BK495.out 3).trans rfl;have hcz54_4:w53.cell? ⟨gb495,4,none⟩=some (.slice A494_4 ((zAJ l0_3 x22_1).f4).length c494_4):=(zAE BK495.out 4).trans rfl;have hcz54_5:w53.cell? ⟨gb495,5,none⟩=some (.int .i64 ((zAJ l0_3 x22_1).f5)):=(zAE BK495.out 5).trans rfl;have hfz54_0:=zAD BK495.out 0;have hfz54_1:=zAD BK495.out 1;have hfz54_2:=zAD BK495.out 2;have hfz54_3:=zAD BK495.out 3;have hfz54_4:=zAD BK495.out 4;have hfz54_5:=zAD BK495.out 5)|((with_reducible refine gate_builtin (b:=.append) (xs:=#[.tmp 48,.tmp 50]) rfl ?_);at_builtin;refine Kd.R_append (Kd.int .i64) (w0:=w) w.heap.size rfl (.tmp 48) (.tmp 50) 36 3 (.int .i64 0) 8 rfl Tryd.underlying36 info3 rfl (by decide) (by omega) u6 x6_1 0 [.int .i64 0] (fun _=>True) (fun _=>False) rfl rfl ?aP (fun _ hk=>hk.elim) ?aF ?aO ?aB ?aS ?aL ?_;(case aP=>exact rfl);(case aB=>exact (by repeat (first|(with_reducible first|exact HB.out|apply zAB|apply zAA|apply zAC|refine zAF ?_ GE490.out|refine zAF ?_ GE495.out)|exact HB.out)));(case aF=>exact (fun _ _=>trivial));(case aO=>exact (by (with_reducible repeat (first|apply Kd.R_alloc|apply Kd.R_drewN|apply Kd.R_drew));exact HO_6.out));(case aS=>exact (zAK (by repeat (first|(with_reducible first|exact HB.out|apply zAB|apply zAA|apply zAC|refine zAF ?_ GE490.out|refine zAF ?_ GE495.out)|exact HB.out))));(case aL=>have:=LMc49.out;omega);intro v515 w55 ho hb hg hat;rw [← Ny514.out] at ho;have n0_:=aK_ (blk_grown (g:=gb490) (o:=.cells #[.string a0_0,.slice A0_1 l0_1.length c0_1,.int .i64 a0_2,.slice (some ad494) l0_3.length c0_3] 25 (0,0)) (by (with_reducible repeat (first|refine zAG ?_ _|refine zAI ?_|refine zAH ?_ _));exact BK490.out) hg (Kd.R_ne HO_6.out BK490.out (by decide)));have n1_:=aK_ (blk_grown (g:=gb495) (o:=.cells #[.int .i64 ((zAJ l0_3 x22_1).f0),.int .i64 ((zAJ l0_3 x22_1).f1),.int .i64 ((zAJ l0_3 x22_1).f2),.int .i64 ((zAJ l0_3 x22_1).f3),.slice A494_4 ((zAJ l0_3 x22_1).f4).length c494_4,.int .i64 ((zAJ l0_3 x22_1).f5)] 33 (0,0)) (by (with_reducible repeat (first|refine zAG ?_ _|refine zAI ?_|refine zAH ?_ _));exact BK495.out) hg (Kd.R_ne HO_6.out BK495.out (by decide)));have n2_:=aK_ (hb);have n3_:=aK_ (ho);clear BK490;clear BK495;clear HB;clear HO_6;have BK490:=n0_;have BK495:=n1_;have HB:=n2_;have HO516:=n3_;clear n0_ n1_ n2_ n3_;clear ho hb hg hat))
          go_roundg k1
          case measure=>have:=HK1.out;omega
          case rel=>exact ⟨(y514),(wrap64 (x22_1+1)),(by first|rfl|(simp;done)|(simp [*];done)),H',⟨by have:=HK1.out;omega⟩,⟨by (with_reducible repeat (first|apply Kd.R_alloc|apply Kd.R_drewN|apply Kd.R_drew));exact HO516.out⟩,⟨by (with_reducible repeat (first|refine zAG ?_ _|refine zAI ?_|refine zAH ?_ _));exact BK490.out⟩,⟨by repeat (first|(with_reducible first|exact HB.out|apply zAB|apply zAA|apply zAC|refine zAF ?_ GE490.out|refine zAF ?_ GE495.out)|exact HB.out)⟩⟩
         ·rw [if_neg c49] at H
          exact absurd H (by simp)
      ·rw [if_neg c10] at H
       exact absurd H (by simp)
     ·rw [if_neg c9] at H
      exact absurd H (by simp)
    ·rw [if_neg c8] at H
     have c8b0:decide (x22_1<(l0_3.length:Int))=false:=decide_eq_false c8
     clear c8
     by_cases c56:0<(x6_1.length:Int)
     ·rw [if_pos c56] at H
      have c56b0:decide (0<(x6_1.length:Int))=true:=decide_eq_true c56
      have c56b1:decide (0<x6_1.length)=true:=decide_eq_true (by omega)
      clear c56
      simp only [Option.some.injEq,Prod.mk.injEq] at H
      obtain ⟨rfl,rfl⟩:=H
      obtain ⟨Ao57,co57,eo57⟩:=Kd.R_slice HO_6.out
      subst eo57
      have p493:0≤(0:Int):=(by omega)
      have q493:0<(x6_1.length:Int):=of_decide_eq_true (by first|(with_reducible assumption)|assumption)
      obtain ⟨ad493,e493,hx493_0⟩:=Kd.at_int (Kd.R_reads' HO_6.out).2.2 0 p493 q493
      cases e493
      have qi493:(0<x6_1.length)=True:=eq_true (by omega)
      (try rw [show ((0:Int)).toNat=0 from rfl] at hx493_0)
      (try rw [Addr.add_zero'] at hx493_0)
      replace p493:=eq_true p493
      replace q493:=eq_true q493
      go_wp2
      go_ret2
      exact ⟨by first|rfl|(simp [zAQ,zAP] <;> rfl)|(simp [*,zAQ,zAP] <;> rfl),by repeat (first|(with_reducible first|exact HB.out|apply zAB|apply zAA|apply zAC|refine zAF ?_ GE490.out)|exact HB.out)⟩
     ·rw [if_neg c56] at H
      exact absurd H (by simp)
 ·rw [if_neg c3] at H
  have c3b0:(t492 == 0)=false:=beq_eq_false_iff_ne.mpr c3
  have c3b1:(t492 != 0)=true:=bne_iff_ne.mpr c3
  simp only [Option.some.injEq,Prod.mk.injEq] at H
  obtain ⟨rfl,rfl⟩:=H
  go_enter Tryd.func30,Tryd.ntmps30
  go_wp2_with (first|((with_reducible refine zAf (N:=1) rfl ?_);refine zAc ?hg (N:=1) ?hd (cs:=#[.string a0_0,.slice A0_1 l0_1.length c0_1,.int .i64 a0_2,.slice A0_3 l0_3.length c0_3]) (t:=25) ?hr ?_;(case hd=>rfl);(case hg=>rfl);(case hr=>first|(go_simp;done)|(go_simp;rfl));intro gb490 hg w58 hbox hb;have n0_:=aK_ (zAL (by repeat (first|(with_reducible first|exact HB.out|apply zAB|apply zAA|apply zAC)|exact HB.out)) hb);have n1_:=aK_ (hbox);have n2_:=aK_ ((by rw [hg];exact (zAK (by repeat (first|(with_reducible first|exact HB.out|apply zAB|apply zAA|apply zAC)|exact HB.out))):w.heap.size≤gb490));have n3_:=aK_ ((by rw [hg];exact (zAK (by repeat (first|(with_reducible first|exact HB.out|apply zAB|apply zAA|apply zAC)|exact HB.out))):w.heap.size≤gb490));clear HB;have HB:=n0_;have BK490:=n1_;have GW490:=n2_;have GE490:=n3_;clear n0_ n1_ n2_ n3_;clear hb hbox hg;have hcz59_0:w58.cell? ⟨gb490,0,none⟩=some (.string a0_0):=(zAE BK490.out 0).trans rfl;have hcz59_1:w58.cell? ⟨gb490,1,none⟩=some (.slice A0_1 l0_1.length c0_1):=(zAE BK490.out 1).trans rfl;have hcz59_2:w58.cell? ⟨gb490,2,none⟩=some (.int .i64 a0_2):=(zAE BK490.out 2).trans rfl;have hcz59_3:w58.cell? ⟨gb490,3,none⟩=some (.slice A0_3 l0_3.length c0_3):=(zAE BK490.out 3).trans rfl;have hfz59_0:=zAD BK490.out 0;have hfz59_1:=zAD BK490.out 1;have hfz59_2:=zAD BK490.out 2;have hfz59_3:=zAD BK490.out 3)|((with_reducible refine zAb (f:=16) rfl ?_);refine goesL_ (some 13) rfl rfl Tryd.func16 (by kernel_rfl) rfl #[.agg #[.string a0_0,.slice A0_1 l0_1.length c0_1,.int .i64 a0_2,.slice A0_3 l0_3.length c0_3]] rfl (by (try simp only [List.map_toArray,List.map_cons,List.map_nil]);first|done|rfl|(simp only [List.length_drop,List.length_take];rfl)) ?_;(with_reducible refine (zAh.calls k a0_0 _ _ l0_1 a0_2 _ _ l0_3 t491 t492 _ ?side1 ?side2 ?side3 ?side4 ?side5 A2.out).mono ?_);(case side1=>(first|(with_reducible exact hG)|((repeat (with_reducible first|exact hG|apply GW.drewN|apply GW.drew|apply GW.alloc));done)|exact GW.below hG (by repeat (first|(with_reducible first|exact HB.out|apply zAB|apply zAA|apply zAC|refine zAF ?_ GE490.out)|exact HB.out))));(case side2=>repeat (first|exact (Kd.C_below HR0_1.out HB.out)|(with_reducible refine Kd.C_alloc ?_ _)|(with_reducible refine Kd.C_drewN ?_ _)|(with_reducible refine Kd.C_drew ?_)));(case side3=>exact HC0_1.out);(case side4=>repeat (first|exact (Kd.C_below HR0_3.out HB.out)|(with_reducible refine Kd.C_alloc ?_ _)|(with_reducible refine Kd.C_drewN ?_ _)|(with_reducible refine Kd.C_drew ?_)));(case side5=>exact HC0_3.out);rintro e w60 ⟨rfl,hb⟩;refine ⟨_,rfl,?_⟩;have n0_:=aK_ (zAX (g:=gb490) (o:=.cells #[.string a0_0,.slice A0_1 l0_1.length c0_1,.int .i64 a0_2,.slice A0_3 l0_3.length c0_3] 25 (0,0)) (by (with_reducible repeat (first|refine zAG ?_ _|refine zAI ?_|refine zAH ?_ _));exact BK490.out) hb);have n1_:=aK_ (zAL (by repeat (first|(with_reducible first|exact HB.out|apply zAB|apply zAA|apply zAC|refine zAF ?_ GE490.out)|exact HB.out)) hb);clear BK490;clear HB;have BK490:=n0_;have HB:=n1_;clear n0_ n1_;(try clear hb);(try clear hb2);(try clear hk);(try clear hi)))
  go_ret2
  exact ⟨by first|rfl|(simp [zAQ,zAP] <;> rfl)|(simp [*,zAQ,zAP] <;> rfl),by repeat (first|(with_reducible first|exact HB.out|apply zAB|apply zAA|apply zAC|refine zAF ?_ GE490.out)|exact HB.out)⟩
end Go.Proofs.YthbnigjckjkmnaaDoor.S

namespace Go.Proofs.YthbnigjckjkmnaaDoor.S
open Go.RowKit Go.Proofs.YthbnigjckjkmnaaDoorW.PrintWords Go.Proofs.YthbnigjckjkmnaaDoorW.PrintLast Go.Proofs.YthbnigjckjkmnaaDoorW.PrintMore Go.Proofs.YthbnigjckjkmnaaDoor.Pure
abbrev bs (s : ByteArray) : List UInt8 := s.data.toList
theorem bs_len (s : ByteArray) : (bs s).length = s.size := by rw [bs, Array.length_toList]; rfl
theorem bt_nat (s : ByteArray) (i : Nat) (h : i < s.size) : bt s (i : Int) = (((bs s)[i]'(by rw [bs_len]; exact h)).toNat : Int) := by
  unfold bt
  rw [dif_pos (by simpa using h)]
  rfl
theorem bt_drop (s : ByteArray) (i : Nat) (h : i < s.size) : ∃ r, (bs s).drop i = (bs s)[i]'(by rw [bs_len]; exact h) :: r ∧ r = (bs s).drop (i + 1) :=
  ⟨_, List.drop_eq_getElem_cons (by rw [bs_len]; exact h), rfl⟩
theorem bs_extract (s : ByteArray) (a b : Nat) : bs (s.extract a b) = ((bs s).take b).drop a := by
  simp [bs, ByteArray.data_extract, Array.toList_extract, List.extract_eq_take_drop, List.drop_take]
theorem bs_from (s : ByteArray) (a : Nat) : bs (s.extract a s.size) = (bs s).drop a := by
  rw [bs_extract, List.take_of_length_le (by rw [bs_len]; omega)]
theorem bs_upto (s : ByteArray) (b : Nat) : bs (s.extract 0 b) = (bs s).take b := by rw [bs_extract]; rfl
theorem wrap_small {x : Int} (h0 : -9223372036854775808 ≤ x) (h1 : x ≤ 9223372036854775807) : wrap64 x = x := by unfold wrap64; omega
theorem size_from (s : ByteArray) (a : Nat) (h : a ≤ s.size) : (s.extract a s.size).size = s.size - a := by
  rw [← bs_len, bs_from, List.length_drop, bs_len]
theorem runL_take_all (p : Int → Bool) (l : List UInt8) : ∀ c ∈ l.take (runL p l), p (c.toNat : Int) = true := by
  induction l with
  | nil => intro c hc; simp at hc
  | cons a r ih =>
    intro c hc
    by_cases h : p (a.toNat : Int) = true
    · simp only [runL, h, if_true, List.take_succ_cons, List.mem_cons] at hc
      rcases hc with rfl | hc
      · exact h
      · exact ih c hc
    · simp [runL, h] at hc
theorem ext_bs {a b : ByteArray} (h : bs a = bs b) : a = b := by
  cases a; cases b
  simp only [bs] at h
  rw [Array.toList_inj.1 h]
theorem take_bs (s : ByteArray) (n : Nat) : s.extract 0 n = ⟨((bs s).take n).toArray⟩ := ext_bs (by rw [bs_upto])
theorem indexByte_mem (l : List UInt8) (c : UInt8) : (0 ≤ Lib.indexByte l c) ↔ c ∈ l := by
  induction l with
  | nil => simp [Lib.indexByte]
  | cons b r ih =>
    have := Lib.indexByte_ge r c
    by_cases h : b = c
    · simp [Lib.indexByte, h]
    · by_cases h1 : Lib.indexByte r c = -1
      · simp [Lib.indexByte, h, h1] at ih ⊢
        exact ⟨fun e => h e.symm, ih⟩
      · have h2 : 0 ≤ Lib.indexByte r c := by omega
        simp [Lib.indexByte, h, h1]
        constructor
        · intro _; exact .inr (ih.1 h2)
        · intro _; omega
theorem letter_f (c : Int) : scan_letter.f c = some (isLetter c) := by
  unfold scan_letter.f isLetter
  by_cases h : c ≥ 97
  · rw [if_pos h]; simp [show (97 : Int) ≤ c from h]
  · rw [if_neg h]; simp [show ¬ (97 : Int) ≤ c from h]
theorem u8_eq {c : UInt8} {n : Nat} (hn : n < 256) : (c.toNat : Int) = (n : Int) ↔ c = UInt8.ofNat n := by
  constructor
  · intro e
    exact UInt8.toNat_inj.1 (by simp [Nat.mod_eq_of_lt hn]; omega)
  · rintro rfl
    simp [Nat.mod_eq_of_lt hn]
theorem rLetter_f (c : Int) : octroiref04_Letter.f c = some (isLetter c) := by
  unfold octroiref04_Letter.f isLetter
  by_cases h : c ≥ 97
  · rw [if_pos h]; simp [show (97 : Int) ≤ c from h]
  · rw [if_neg h]; simp [show ¬ (97 : Int) ≤ c from h]
theorem rDigit_f (c : Int) : octroiref04_Digit.f c = some (isDigit c) := by
  unfold octroiref04_Digit.f isDigit
  by_cases h : c ≥ 48
  · rw [if_pos h]; simp [show (48 : Int) ≤ c from h]
  · rw [if_neg h]; simp [show ¬ (48 : Int) ≤ c from h]
theorem runL_stop (p : Int → Bool) (s : ByteArray) (i : Nat) (h : i < s.size) : runL p ((bs s).drop i) = if p (bt s i) = true then runL p ((bs s).drop (i + 1)) + 1 else 0 := by
  obtain ⟨r, hr, hr'⟩ := bt_drop s i h
  rw [hr, bt_nat s i h, hr']
  rfl
def flatW : List (List UInt8) → List UInt8
  | [] => []
  | w :: ws => w ++ 32 :: flatW ws
theorem contains_cons (b : UInt8) (l n : List UInt8) : Lib.contains (b :: l) n = (n.isPrefixOf (b :: l) || Lib.contains l n) := by
  have hge := Lib.index_ge l n
  have hi : Lib.index (b :: l) n = (if n.isPrefixOf (b :: l) then 0 else if Lib.index l n == -1 then -1 else Lib.index l n + 1) := rfl
  rw [Bool.eq_iff_iff]
  unfold Lib.contains
  rw [Bool.or_eq_true, decide_eq_true_iff, decide_eq_true_iff, hi]
  by_cases hp : n.isPrefixOf (b :: l) = true
  · rw [if_pos hp]; simp [hp]
  · rw [if_neg hp]
    by_cases hx : Lib.index l n = -1
    · rw [hx]; simp [hp]
    · have : (Lib.index l n == -1) = false := by simpa using hx
      rw [this]
      simp only [Bool.false_eq_true, if_false]
      constructor
      · intro _; exact .inr (by omega)
      · intro _; omega
theorem runL_yes {p : Int → Bool} {c : UInt8} {r : List UInt8} (h : p (c.toNat : Int) = true) : runL p (c :: r) = runL p r + 1 := if_pos h
theorem runL_no {p : Int → Bool} {c : UInt8} {r : List UInt8} (h : ¬ p (c.toNat : Int) = true) : runL p (c :: r) = 0 := if_neg h
theorem pre_words (s w r : List UInt8) (hs : ∀ c ∈ s, c ≠ 32) (hw : ∀ c ∈ w, c ≠ 32) : (s ++ [32]).isPrefixOf (w ++ 32 :: r) = decide (s = w) := by
  induction s generalizing w with
  | nil =>
    cases w with
    | nil => simp [List.isPrefixOf]
    | cons b w =>
      have := hw b (by simp)
      simp [List.isPrefixOf, this]
      exact fun h => this h.symm
  | cons a s ih =>
    cases w with
    | nil =>
      have := hs a (by simp)
      simp [List.isPrefixOf, this]
    | cons b w =>
      have h1 := ih w (fun c hc => hs c (by simp [hc])) (fun c hc => hw c (by simp [hc]))
      simp only [List.cons_append, List.isPrefixOf, h1]
      by_cases hab : a = b
      · subst hab; simp
      · simp [hab]
theorem skip_word (w t n : List UInt8) (hw : ∀ c ∈ w, c ≠ 32) : Lib.contains (w ++ t) (32 :: n) = Lib.contains t (32 :: n) := by
  induction w with
  | nil => rfl
  | cons b w ih =>
    have hb := hw b (by simp)
    rw [List.cons_append, contains_cons, ih (fun c hc => hw c (by simp [hc]))]
    have : (32 :: n).isPrefixOf (b :: (w ++ t)) = false := by
      simp [List.isPrefixOf]
      exact fun h => absurd h.symm hb
    rw [this, Bool.false_or]
theorem contains_words (s : List UInt8) (ws : List (List UInt8)) (hs : ∀ c ∈ s, c ≠ 32) (hw : ∀ w ∈ ws, ∀ c ∈ w, c ≠ 32) :
    Lib.contains (32 :: flatW ws) (32 :: (s ++ [32])) = decide (s ∈ ws) := by
  induction ws with
  | nil =>
    rw [flatW, contains_cons]
    have h1 : (32 :: (s ++ [32])).isPrefixOf [32] = false := by
      cases s <;> simp [List.isPrefixOf]
    have h2 : Lib.contains [] (32 :: (s ++ [32])) = false := rfl
    rw [h1, h2]
    simp
  | cons w ws ih =>
    have h1 : (32 :: (s ++ [32])).isPrefixOf (32 :: (w ++ 32 :: flatW ws)) = decide (s = w) := by
      rw [List.isPrefixOf, pre_words s w _ hs (hw w (by simp))]
      simp
    rw [flatW, contains_cons, h1, skip_word w _ _ (hw w (by simp)), ih (fun v hv => hw v (by simp [hv]))]
    simp [Bool.decide_or]
def wordsL : List (List UInt8) := [[112, 108, 97, 110], [114, 111, 117, 110, 100], [98, 121], [98, 108, 111, 99, 107, 115], [109, 105, 110], [109, 97, 120], [111, 118, 101, 114], [117, 112, 116, 111], [103, 114, 97, 100, 117, 97, 116, 101, 100], [118, 111, 108, 117, 109, 101], [111, 102, 102], [105, 102], [102, 108, 111, 111, 114], [99, 101, 105, 108], [122, 101, 114, 111], [104, 97, 108, 102], [101, 118, 101, 110]]
theorem words_letters : ∀ w ∈ wordsL, w ≠ [] ∧ runL isLetter w = w.length := by decide
theorem words_blank : ∀ w ∈ wordsL, ∀ c ∈ w, c ≠ 32 := by decide
theorem runL_all (p : Int → Bool) (l : List UInt8) (h : runL p l = l.length) : ∀ c ∈ l, p (c.toNat : Int) = true := by
  have := runL_take_all p l
  rw [h, List.take_length] at this
  exact this
theorem word_f (s : ByteArray) (hs : s.size ≤ 140737488351232) : scan_Word.f s = some (decide (bs s ∈ wordsL)) := by
  unfold scan_Word.f
  rw [ByteArray.toList_eq]
  by_cases h0 : bs s = []
  · rw [if_pos h0]
    have : ¬ (bs s ∈ wordsL) := fun h => (words_letters _ h).1 h0
    rw [decide_eq_false this]
  · rw [if_neg h0]
    have hlen : ((⟨#[32]⟩ : ByteArray) ++ s).size = 1 + s.size := by rw [ByteArray.size_append]; rfl
    unfold scan_run_letter.f
    rw [if_pos (by omega), Option.bind_some]
    by_cases hr : runL isLetter (bs s) = s.size
    · rw [if_pos (by exact congrArg Int.ofNat hr), if_pos (by omega), if_pos (by omega)]
      unfold strings_Contains.f
      rw [if_pos (by decide), Option.bind_some]
      congr 1
      have hbs : (((⟨#[32]⟩ : ByteArray) ++ s) ++ (⟨#[32]⟩ : ByteArray)).data.toList = 32 :: (bs s ++ [32]) := by
        rw [ByteArray.data_append, ByteArray.data_append, Array.toList_append, Array.toList_append]
        rfl
      rw [hbs]
      exact contains_words (bs s) wordsL (fun c hc h => by
        have := runL_all isLetter (bs s) (by rw [hr, bs_len]) c hc
        subst h
        exact absurd this (by decide)) words_blank
    · rw [if_neg (by intro h; exact hr (Int.ofNat.inj h))]
      have : ¬ (bs s ∈ wordsL) := fun h => hr (by rw [(words_letters _ h).2, bs_len])
      rw [decide_eq_false this]
theorem rword_l0 (s : ByteArray) (L : List ByteArray) (hL : L.length ≤ 100) (d : Nat) : ∀ (k i : Nat), i ≤ L.length → L.length - i ≤ d → d < k →
    zAd.l0 k s L (i : Int) = some (decide (bs s ∈ (L.drop i).map bs)) := by
  induction d with
  | zero =>
    intro k i h0 h1 hk
    obtain ⟨k, rfl⟩ : ∃ m, k = m + 1 := ⟨k - 1, by omega⟩
    simp only [zAd.l0]
    rw [if_neg (by omega), List.drop_of_length_le (by omega)]
    simp
  | succ d ih =>
    intro k i h0 h1 hk
    obtain ⟨k, rfl⟩ : ∃ m, k = m + 1 := ⟨k - 1, by omega⟩
    rcases Nat.lt_or_ge i L.length with hlt | hge
    · have hnext := ih k (i + 1) (by omega) (by omega) (by omega)
      have hw : wrap64 ((i : Int) + 1) = ((i + 1 : Nat) : Int) := by rw [wrap_small (by omega) (by omega)]; omega
      have hrd : rdOf ByteArray.empty L (i : Int) = L[i] := by
        rw [rdOf, Int.toNat_natCast, List.getD_eq_getElem?_getD, List.getElem?_eq_getElem hlt]; rfl
      simp only [zAd.l0]
      rw [if_pos (Int.ofNat_lt.2 hlt), if_pos (Int.natCast_nonneg _), hrd, hw, hnext, ByteArray.toList_eq, ByteArray.toList_eq]
      rw [List.drop_eq_getElem_cons hlt, List.map_cons]
      by_cases he : bs L[i] = bs s
      · rw [if_pos he, decide_eq_true (by simp [he])]
      · rw [if_neg he]
        congr 1
        have : ¬ bs s = bs L[i] := fun h => he h.symm
        simp [this]
    · simp only [zAd.l0]
      rw [if_neg (by omega), List.drop_of_length_le (by omega)]
      simp
theorem rword_f (s : ByteArray) (k : Nat) (hk : 17 < k) : zAd.f k s = some (decide (bs s ∈ wordsL)) := by
  unfold zAd.f octroiref04_words.f
  rw [Option.bind_some]
  exact rword_l0 s _ (by decide) 17 k 0 (by decide) (by decide) hk
def nameB (l : List UInt8) : Bool := decide (0 < l.length) && decide (l.length ≤ 32) && (match l with | [] => false | c :: _ => isLetter (c.toNat : Int)) && decide (runL isInner l = l.length) && !decide (l ∈ wordsL)
theorem name_f (s : ByteArray) (hs : s.size ≤ 140737488351232) : scan_Name.f s = some (nameB (bs s)) := by
  have hbl := bs_len s
  unfold scan_Name.f nameB
  rw [ByteArray.toList_eq]
  by_cases h0 : bs s = []
  · rw [if_pos h0, h0]; rfl
  · have hpos : 0 < s.size := by rw [← hbl]; exact List.length_pos_iff.2 h0
    rw [if_neg h0, hbl, decide_eq_true hpos, Bool.true_and]
    by_cases h32 : s.size ≤ 32
    · have hb := bt_nat s 0 hpos
      obtain ⟨r, hr, _⟩ := bt_drop s 0 hpos
      rw [List.drop_zero] at hr
      have hb' : bt s 0 = (((bs s)[0]'(by rw [hbl]; exact hpos)).toNat : Int) := hb
      rw [if_pos (by omega), if_pos (by omega), letter_f, Option.bind_some, decide_eq_true h32, Bool.true_and, hb']
      have hm : (match bs s with | [] => false | c :: _ => isLetter (c.toNat : Int)) = isLetter (((bs s)[0]'(by rw [hbl]; exact hpos)).toNat : Int) := by
        generalize (bs s)[0]'(by rw [hbl]; exact hpos) = c at hr ⊢
        rw [hr]
      rw [hm]
      cases hl : isLetter (((bs s)[0]'(by rw [hbl]; exact hpos)).toNat : Int) with
      | false => rw [if_neg (by decide)]; simp
      | true =>
        rw [if_pos rfl, word_f s hs]
        unfold scan_run_inner.f
        rw [if_pos (by omega), Option.bind_some, Option.bind_some, Bool.true_and]
        by_cases hr : runL isInner (bs s) = s.size
        · rw [if_pos (by exact congrArg Int.ofNat hr), decide_eq_true hr, Bool.true_and]
        · rw [if_neg (by intro h; exact hr (Int.ofNat.inj h)), decide_eq_false hr]; rfl
    · rw [if_neg (by omega), decide_eq_false h32]; simp
theorem rname_l0 (s : ByteArray) (hs : s.size ≤ 140737488351232) (d : Nat) : ∀ (k i : Nat), i ≤ s.size → s.size - i ≤ d → d < k →
    zAN.l0 k s (i : Int) = some (decide (runL isInner ((bs s).drop i) = s.size - i)) := by
  induction d with
  | zero =>
    intro k i h0 h1 hk
    obtain ⟨k, rfl⟩ : ∃ m, k = m + 1 := ⟨k - 1, by omega⟩
    simp only [zAN.l0]
    rw [if_neg (by omega), List.drop_of_length_le (by rw [bs_len]; omega), decide_eq_true (by simp [runL]; omega)]
  | succ d ih =>
    intro k i h0 h1 hk
    obtain ⟨k, rfl⟩ : ∃ m, k = m + 1 := ⟨k - 1, by omega⟩
    rcases Nat.lt_or_ge i s.size with hlt | hge
    · have hnext := ih k (i + 1) (by omega) (by omega) (by omega)
      have hb := bt_nat s i hlt
      obtain ⟨r, hr, hr2⟩ := bt_drop s i hlt
      generalize hc : (bs s)[i]'(by rw [bs_len]; exact hlt) = c at hb hr
      have hd : decide (runL isInner ((bs s).drop i) = s.size - i) = (isInner (c.toNat : Int) && decide (runL isInner ((bs s).drop (i + 1)) = s.size - (i + 1))) := by
        rw [hr, ← hr2]
        by_cases hi : isInner (c.toNat : Int) = true
        · rw [runL_yes hi, hi, Bool.true_and]
          by_cases h : runL isInner r = s.size - (i + 1)
          · rw [decide_eq_true h, decide_eq_true (by omega)]
          · rw [decide_eq_false h, decide_eq_false (by omega)]
        · rw [runL_no hi, decide_eq_false (by omega)]
          have : isInner (c.toNat : Int) = false := by simpa using hi
          rw [this, Bool.false_and]
      have hw : wrap64 ((i : Int) + 1) = ((i + 1 : Nat) : Int) := by rw [wrap_small (by omega) (by omega)]; omega
      rw [hd]
      simp only [zAN.l0]
      rw [if_pos (Int.ofNat_lt.2 hlt), if_pos (Int.natCast_nonneg _), hb, hw, hnext, rLetter_f, Option.bind_some, rDigit_f, Option.bind_some]
      unfold isInner
      by_cases h1 : isLetter (c.toNat : Int) = true
      · rw [if_pos h1, h1]; simp
      · have h1' : isLetter (c.toNat : Int) = false := by simpa using h1
        rw [if_neg h1, h1', Bool.false_or]
        by_cases h2 : isDigit (c.toNat : Int) = true
        · rw [if_pos h2, h2]; simp
        · have h2' : isDigit (c.toNat : Int) = false := by simpa using h2
          rw [if_neg h2, h2', Bool.false_or]
          by_cases h3 : (c.toNat : Int) = 95
          · rw [if_pos h3, h3]; simp
          · have : ((c.toNat : Int) == 95) = false := by simpa using h3
            rw [if_neg h3, this, Bool.false_and]
    · simp only [zAN.l0]
      rw [if_neg (by omega), List.drop_of_length_le (by rw [bs_len]; omega), decide_eq_true (by simp [runL]; omega)]
theorem rname_f (s : ByteArray) (hs : s.size ≤ 140737488351232) (k : Nat) (hk : s.size + 20 < k) : zAN.f k s = some (nameB (bs s)) := by
  have hbl := bs_len s
  obtain ⟨k, rfl⟩ : ∃ m, k = m + 1 := ⟨k - 1, by omega⟩
  unfold zAN.f
  by_cases h0 : s.size = 0
  · have hn : bs s = [] := List.eq_nil_of_length_eq_zero (by rw [hbl]; exact h0)
    rw [if_pos (by omega), hn]
    simp only [zAN.j0]
    rfl
  have hpos : 0 < s.size := by omega
  unfold nameB
  rw [if_neg (by omega), hbl, decide_eq_true hpos, Bool.true_and]
  by_cases h32 : s.size ≤ 32
  · have hb := bt_nat s 0 hpos
    obtain ⟨r, hr, _⟩ := bt_drop s 0 hpos
    rw [List.drop_zero] at hr
    have hb' : bt s 0 = (((bs s)[0]'(by rw [hbl]; exact hpos)).toNat : Int) := hb
    rw [if_neg (by omega), if_pos (by omega), rLetter_f, Option.bind_some, decide_eq_true h32, Bool.true_and, hb']
    have hm : (match bs s with | [] => false | c :: _ => isLetter (c.toNat : Int)) = isLetter (((bs s)[0]'(by rw [hbl]; exact hpos)).toNat : Int) := by
      generalize (bs s)[0]'(by rw [hbl]; exact hpos) = c at hr ⊢
      rw [hr]
    rw [hm]
    generalize (bs s)[0]'(by rw [hbl]; exact hpos) = c at hr ⊢
    cases hl : isLetter (c.toNat : Int) with
    | false => rw [if_neg (by decide)]; simp only [zAN.j0]; simp
    | true =>
      rw [if_pos rfl, rword_f s (k + 1) (by omega), Option.bind_some, Bool.true_and]
      simp only [zAN.j0]
      by_cases hw : bs s ∈ wordsL
      · rw [decide_eq_true hw]; simp
      · rw [decide_eq_false hw, if_neg (by decide)]
        have h1 := rname_l0 s hs s.size k 1 (by omega) (by omega) (by omega)
        have h2 : (zAN.l0 k s 1) = zAN.l0 k s ((1 : Nat) : Int) := rfl
        rw [h2, h1]
        have hin : isInner (c.toNat : Int) = true := isInner_of_letter hl
        have hr1 : (bs s).drop 1 = r := by rw [hr]; rfl
        rw [hr1, hr, runL_yes hin]
        congr 1
        by_cases h : runL isInner r = s.size - 1
        · rw [decide_eq_true h, decide_eq_true (by omega)]; rfl
        · rw [decide_eq_false h, decide_eq_false (by omega)]; rfl
  · rw [if_pos (by omega), decide_eq_false h32]
    simp only [zAN.j0]
    simp
end Go.Proofs.YthbnigjckjkmnaaDoor.S
