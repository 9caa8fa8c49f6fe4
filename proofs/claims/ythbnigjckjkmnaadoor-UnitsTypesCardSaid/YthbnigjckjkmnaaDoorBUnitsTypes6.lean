/- What the proof needs, part 6 of 19. Types of every raw plan: the answer is the reference's, with places and errors. For every plan that the card lets in. -/
import Derived.Test.YthbnigjckjkmnaaDoorBUnitsTypes5
set_option linter.unusedVariables false
set_option linter.unusedSimpArgs false
namespace Go.Proofs.YthbnigjckjkmnaaDoor.S
open Go.RowKit Go.Proofs.YthbnigjckjkmnaaDoorW.PrintWords Go.Proofs.YthbnigjckjkmnaaDoorW.PrintLast Go.Proofs.YthbnigjckjkmnaaDoorW.PrintMore
attribute [local go_sem] max2_int min2_int max_two min_two max_three min_three max_four min_four
def octroiref08_product.f (a0:Int) (a1:Int):Option (Int):=if a0=0 then (some a1) else (if a1=0 then (some a0) else ((zAV.f a0).bind fun t711=>(if t711=true then (if a1=1 then (some 1) else (if a0=1 then ((zAV.f a1).bind fun t712=>(if t712=true then (some 1) else (some (-1)))) else (some (-1)))) else (if a0=1 then ((zAV.f a1).bind fun t713=>(if t713=true then (some 1) else (some (-1)))) else (some (-1))))))
set_option maxHeartbeats 8000000 in
set_option maxRecDepth 100000 in
theorem octroiref08_product.calls (a0:Int) (a1:Int) (r:Int) (w:World) (h:octroiref08_product.f a0 a1=some r) :
  Calls Tryd.prog 74 #[.int .i64 a0,.int .i64 a1] w fun e w'=>e = .returned (.int .i64 r)∧zAi w w':=by
 have H:(if a0=0 then (some a1) else (if a1=0 then (some a0) else ((zAV.f a0).bind fun t711=>(if t711=true then (if a1=1 then (some 1) else (if a0=1 then ((zAV.f a1).bind fun t712=>(if t712=true then (some 1) else (some (-1)))) else (some (-1)))) else (if a0=1 then ((zAV.f a1).bind fun t713=>(if t713=true then (some 1) else (some (-1)))) else (some (-1)))))))=some r:=h
 clear h
 by_cases c3:a0=0
 ·rw [if_pos c3] at H
  have c3b0:(a0 == 0)=true:=beq_iff_eq.mpr c3
  have c3b1:(a0 != 0)=false:=bne_eq_false_iff_eq.mpr c3
  clear c3
  obtain rfl:=Option.some.inj H
  go_enter Tryd.func74,Tryd.ntmps74
  go_wp2
  go_ret
  exact ⟨by first|rfl|(simp;done)|(simp [*];done),by repeat (first|exact zAi.refl _|apply zAi.step)⟩
 rw [if_neg c3] at H
 have c3b0:(a0 == 0)=false:=beq_eq_false_iff_ne.mpr c3
 have c3b1:(a0 != 0)=true:=bne_iff_ne.mpr c3
 by_cases c4:a1=0
 ·rw [if_pos c4] at H
  have c4b0:(a1 == 0)=true:=beq_iff_eq.mpr c4
  have c4b1:(a1 != 0)=false:=bne_eq_false_iff_eq.mpr c4
  clear c4
  obtain rfl:=Option.some.inj H
  go_enter Tryd.func74,Tryd.ntmps74
  go_wp2
  go_ret
  exact ⟨by first|rfl|(simp;done)|(simp [*];done),by repeat (first|exact zAi.refl _|apply zAi.step)⟩
 rw [if_neg c4] at H
 have c4b0:(a1 == 0)=false:=beq_eq_false_iff_ne.mpr c4
 have c4b1:(a1 != 0)=true:=bne_iff_ne.mpr c4
 replace H:=Option.bind_eq_some_iff.mp H
 obtain ⟨t711,A50,H⟩:=H
 replace H:(if t711=true then (if a1=1 then (some 1) else (if a0=1 then ((zAV.f a1).bind fun t712=>(if t712=true then (some 1) else (some (-1)))) else (some (-1)))) else (if a0=1 then ((zAV.f a1).bind fun t713=>(if t713=true then (some 1) else (some (-1)))) else (some (-1))))=some r:=H
 have A5:=aK_ A50
 clear A50
 by_cases c6:t711=true
 rotate_left
 ·replace c6:=Bool.eq_false_iff.mpr c6
  subst c6
  have H1:(if a0=1 then ((zAV.f a1).bind fun t713=>(if t713=true then (some 1) else (some (-1)))) else (some (-1)))=some r:=by rw [if_neg (show ¬ (false=true) by decide)] at H;exact H
  clear H
  have H:=H1
  clear H1
  by_cases c11:a0=1
  rotate_left
  ·rw [if_neg c11] at H
   have c11b0:(a0 == 1)=false:=beq_eq_false_iff_ne.mpr c11
   have c11b1:(a0 != 1)=true:=bne_iff_ne.mpr c11
   obtain rfl:=Option.some.inj H
   go_enter Tryd.func74,Tryd.ntmps74
   go_wp2_with (first|((with_reducible refine zAc (f:=75) rfl ?_);refine goesL_ (some 12) rfl rfl Tryd.func75 (by kernel_rfl) rfl #[.int .i64 a0] rfl aM_ ?_;(with_reducible refine (zAV.calls a0 false _ A5.out).mono ?_);rintro e w' ⟨rfl,⟨nd,rfl⟩⟩;refine ⟨_,rfl,?_⟩))
   go_ret
   exact ⟨by first|rfl|(simp;done)|(simp [*];done),by repeat (first|exact zAi.refl _|apply zAi.step)⟩
  rw [if_pos c11] at H
  have c11b0:(a0 == 1)=true:=beq_iff_eq.mpr c11
  have c11b1:(a0 != 1)=false:=bne_eq_false_iff_eq.mpr c11
  clear c11
  replace H:=Option.bind_eq_some_iff.mp H
  obtain ⟨t713,A120,H⟩:=H
  replace H:(if t713=true then (some 1) else (some (-1)))=some r:=H
  have A12:=aK_ A120
  clear A120
  by_cases c13:t713=true
  ·subst c13
   have H1:(some 1)=some r:=by rw [if_pos rfl] at H;exact H
   clear H
   have H:=H1
   clear H1
   obtain rfl:=Option.some.inj H
   go_enter Tryd.func74,Tryd.ntmps74
   go_wp2_with (first|((with_reducible refine zAc (f:=75) rfl ?_);refine goesL_ (some 12) rfl rfl Tryd.func75 (by kernel_rfl) rfl #[.int .i64 a0] rfl aM_ ?_;(with_reducible refine (zAV.calls a0 false _ A5.out).mono ?_);rintro e w' ⟨rfl,⟨nd,rfl⟩⟩;refine ⟨_,rfl,?_⟩)|(go_at_call 75;(with_reducible refine (zAV.calls a1 true _ A12.out).mono ?_);rintro e w' ⟨rfl,⟨nd,rfl⟩⟩))
   go_ret
   exact ⟨by first|rfl|(simp;done)|(simp [*];done),by repeat (first|exact zAi.refl _|apply zAi.step)⟩
  replace c13:=Bool.eq_false_iff.mpr c13
  subst c13
  have H1:(some (-1))=some r:=by rw [if_neg (show ¬ (false=true) by decide)] at H;exact H
  clear H
  have H:=H1
  clear H1
  obtain rfl:=Option.some.inj H
  go_enter Tryd.func74,Tryd.ntmps74
  go_wp2_with (first|((with_reducible refine zAc (f:=75) rfl ?_);refine goesL_ (some 12) rfl rfl Tryd.func75 (by kernel_rfl) rfl #[.int .i64 a0] rfl aM_ ?_;(with_reducible refine (zAV.calls a0 false _ A5.out).mono ?_);rintro e w' ⟨rfl,⟨nd,rfl⟩⟩;refine ⟨_,rfl,?_⟩)|(go_at_call 75;(with_reducible refine (zAV.calls a1 false _ A12.out).mono ?_);rintro e w' ⟨rfl,⟨nd,rfl⟩⟩))
  go_ret
  exact ⟨by first|rfl|(simp;done)|(simp [*];done),by repeat (first|exact zAi.refl _|apply zAi.step)⟩
 subst c6
 have H1:(if a1=1 then (some 1) else (if a0=1 then ((zAV.f a1).bind fun t712=>(if t712=true then (some 1) else (some (-1)))) else (some (-1))))=some r:=by rw [if_pos rfl] at H;exact H
 clear H
 have H:=H1
 clear H1
 by_cases c7:a1=1
 ·rw [if_pos c7] at H
  have c7b0:(a1 == 1)=true:=beq_iff_eq.mpr c7
  have c7b1:(a1 != 1)=false:=bne_eq_false_iff_eq.mpr c7
  clear c7
  obtain rfl:=Option.some.inj H
  go_enter Tryd.func74,Tryd.ntmps74
  go_wp2_with (first|((with_reducible refine zAc (f:=75) rfl ?_);refine goesL_ (some 12) rfl rfl Tryd.func75 (by kernel_rfl) rfl #[.int .i64 a0] rfl aM_ ?_;(with_reducible refine (zAV.calls a0 true _ A5.out).mono ?_);rintro e w' ⟨rfl,⟨nd,rfl⟩⟩;refine ⟨_,rfl,?_⟩))
  go_ret
  exact ⟨by first|rfl|(simp;done)|(simp [*];done),by repeat (first|exact zAi.refl _|apply zAi.step)⟩
 rw [if_neg c7] at H
 have c7b0:(a1 == 1)=false:=beq_eq_false_iff_ne.mpr c7
 have c7b1:(a1 != 1)=true:=bne_iff_ne.mpr c7
 by_cases c8:a0=1
 rotate_left
 ·rw [if_neg c8] at H
  have c8b0:(a0 == 1)=false:=beq_eq_false_iff_ne.mpr c8
  have c8b1:(a0 != 1)=true:=bne_iff_ne.mpr c8
  obtain rfl:=Option.some.inj H
  go_enter Tryd.func74,Tryd.ntmps74
  go_wp2_with (first|((with_reducible refine zAc (f:=75) rfl ?_);refine goesL_ (some 12) rfl rfl Tryd.func75 (by kernel_rfl) rfl #[.int .i64 a0] rfl aM_ ?_;(with_reducible refine (zAV.calls a0 true _ A5.out).mono ?_);rintro e w' ⟨rfl,⟨nd,rfl⟩⟩;refine ⟨_,rfl,?_⟩))
  go_ret
  exact ⟨by first|rfl|(simp;done)|(simp [*];done),by repeat (first|exact zAi.refl _|apply zAi.step)⟩
 rw [if_pos c8] at H
 have c8b0:(a0 == 1)=true:=beq_iff_eq.mpr c8
 have c8b1:(a0 != 1)=false:=bne_eq_false_iff_eq.mpr c8
 clear c8
 replace H:=Option.bind_eq_some_iff.mp H
 obtain ⟨t712,A90,H⟩:=H
 replace H:(if t712=true then (some 1) else (some (-1)))=some r:=H
 have A9:=aK_ A90
 clear A90
 by_cases c10:t712=true
 ·subst c10
  have H1:(some 1)=some r:=by rw [if_pos rfl] at H;exact H
  clear H
  have H:=H1
  clear H1
  obtain rfl:=Option.some.inj H
  go_enter Tryd.func74,Tryd.ntmps74
  go_wp2_with (first|((with_reducible refine zAc (f:=75) rfl ?_);refine goesL_ (some 12) rfl rfl Tryd.func75 (by kernel_rfl) rfl #[.int .i64 a0] rfl aM_ ?_;(with_reducible refine (zAV.calls a0 true _ A5.out).mono ?_);rintro e w' ⟨rfl,⟨nd,rfl⟩⟩;refine ⟨_,rfl,?_⟩)|(go_at_call 75;(with_reducible refine (zAV.calls a1 true _ A9.out).mono ?_);rintro e w' ⟨rfl,⟨nd,rfl⟩⟩))
  go_ret
  exact ⟨by first|rfl|(simp;done)|(simp [*];done),by repeat (first|exact zAi.refl _|apply zAi.step)⟩
 replace c10:=Bool.eq_false_iff.mpr c10
 subst c10
 have H1:(some (-1))=some r:=by rw [if_neg (show ¬ (false=true) by decide)] at H;exact H
 clear H
 have H:=H1
 clear H1
 obtain rfl:=Option.some.inj H
 go_enter Tryd.func74,Tryd.ntmps74
 go_wp2_with (first|((with_reducible refine zAc (f:=75) rfl ?_);refine goesL_ (some 12) rfl rfl Tryd.func75 (by kernel_rfl) rfl #[.int .i64 a0] rfl aM_ ?_;(with_reducible refine (zAV.calls a0 true _ A5.out).mono ?_);rintro e w' ⟨rfl,⟨nd,rfl⟩⟩;refine ⟨_,rfl,?_⟩)|(go_at_call 75;(with_reducible refine (zAV.calls a1 false _ A9.out).mono ?_);rintro e w' ⟨rfl,⟨nd,rfl⟩⟩))
 go_ret
 exact ⟨by first|rfl|(simp;done)|(simp [*];done),by repeat (first|exact zAi.refl _|apply zAi.step)⟩
end Go.Proofs.YthbnigjckjkmnaaDoor.S

namespace Go.Proofs.YthbnigjckjkmnaaDoor.S
open Go.RowKit Go.Proofs.YthbnigjckjkmnaaDoorW.PrintWords Go.Proofs.YthbnigjckjkmnaaDoorW.PrintLast Go.Proofs.YthbnigjckjkmnaaDoorW.PrintMore
attribute [local go_sem] max2_int min2_int max_two min_two max_three min_three max_four min_four
mutual
def zAJ.j0:Nat→List Int→Int→Bool→Option (Int)
 |0,_,_,_=>none
 |k+1,x1,x6,x23=>if x23=true then ((zAd.f k x1).bind fun t715=>(some t715)) else (if x6=8 then (if 0<(x1.length:Int) then (if 1<(x1.length:Int) then ((octroiref08_product.f (rd x1 0) (rd x1 1)).bind fun t718=>(some t718)) else (none)) else (none)) else (if x6=11 then (zAJ.j1 k x1 x6 (x6 == 11)) else (zAJ.j1 k x1 x6 (x6 == 12))))
def zAJ.j1:Nat→List Int→Int→Bool→Option (Int)
 |0,_,_,_=>none
 |k+1,x1,x6,x40=>if x40=true then (if 0<(x1.length:Int) then ((zAV.f (rd x1 0)).bind fun t720=>(if t720=true then (some (rd x1 0)) else (some (-1)))) else (none)) else (if x6=13 then (zAJ.j2 k x1 x6 (x6 == 13)) else (zAJ.j2 k x1 x6 (x6 == 14)))
def zAJ.j2:Nat→List Int→Int→Bool→Option (Int)
 |0,_,_,_=>none
 |k+1,x1,x6,x50=>if x50=true then (if 0<(x1.length:Int) then ((zAV.f (rd x1 0)).bind fun t723=>(if t723=true then (some 1) else (some (-1)))) else (none)) else (if x6=15 then (if 0<(x1.length:Int) then (if (rd x1 0)=1 then (some (rd x1 0)) else (some (-1))) else (none)) else (if x6=16 then (if 0<(x1.length:Int) then ((zAV.f (rd x1 0)).bind fun t727=>(if t727=true then (if 1≤(x1.length:Int) then ((zAd.f k (x1.drop 1)).bind fun t729=>(some t729)) else (none)) else (some (-1)))) else (none)) else (some (-1))))
end
def zAJ.f (k:Nat) (a0_0:Int) (a0_1:Int) (a0_2:Int) (a0_3:Int) (l0_4:List (S45)) (a0_5:Int) (l1:List Int):Option (Int):=if a0_0=1 then (some 0) else (if a0_0=2 then (some 1) else (if a0_0=3 then (some (wrap64 (2+(wrap64 (2 * a0_1))))) else (if a0_0=4 then (some (wrap64 (3+(wrap64 (2 * a0_1))))) else (if a0_0=5 then (zAJ.j0 k l1 a0_0 (a0_0 == 5)) else (if a0_0=6 then (zAJ.j0 k l1 a0_0 (a0_0 == 6)) else (if a0_0=7 then (zAJ.j0 k l1 a0_0 (a0_0 == 7)) else (if a0_0=9 then (zAJ.j0 k l1 a0_0 (a0_0 == 9)) else (zAJ.j0 k l1 a0_0 (a0_0 == 10)))))))))
theorem zAJ.mono_l:∀ k,(∀ y0 y1 y2,LeO (zAJ.j0 k y0 y1 y2) (zAJ.j0 (k+1) y0 y1 y2))∧(∀ y0 y1 y2,LeO (zAJ.j1 k y0 y1 y2) (zAJ.j1 (k+1) y0 y1 y2))∧(∀ y0 y1 y2,LeO (zAJ.j2 k y0 y1 y2) (zAJ.j2 (k+1) y0 y1 y2))
 |0=>⟨fun _ _ _ r h=>by simp [zAJ.j0] at h,fun _ _ _ r h=>by simp [zAJ.j1] at h,fun _ _ _ r h=>by simp [zAJ.j2] at h⟩
 |k+1=>by
  obtain ⟨ih0,ih1,ih2⟩:=zAJ.mono_l k
  refine ⟨?_,?_,?_⟩
  ·intro y0 y1 y2
   unfold zAJ.j0
   repeat' first
   |(with_reducible exact ih0 _ _ _)
   |(with_reducible exact ih1 _ _ _)
   |(with_reducible exact ih2 _ _ _)
   |(with_reducible exact zAd.mono _ _)
   |(with_reducible exact LeO.refl _)
   |(with_reducible exact LeO.none _)
   |(with_reducible refine LeO.ite ?_ ?_)
   |(with_reducible refine LeO.bind ?_ (fun _=>?_))
   |exact ih0 _ _ _
   |exact ih1 _ _ _
   |exact ih2 _ _ _
   |exact zAd.mono _ _
   |exact LeO.none _
   |refine LeO.ite ?_ ?_
   |refine LeO.bind ?_ (fun _=>?_)
  ·intro y0 y1 y2
   unfold zAJ.j1
   repeat' first
   |(with_reducible exact ih0 _ _ _)
   |(with_reducible exact ih1 _ _ _)
   |(with_reducible exact ih2 _ _ _)
   |(with_reducible exact zAd.mono _ _)
   |(with_reducible exact LeO.refl _)
   |(with_reducible exact LeO.none _)
   |(with_reducible refine LeO.ite ?_ ?_)
   |(with_reducible refine LeO.bind ?_ (fun _=>?_))
   |exact ih0 _ _ _
   |exact ih1 _ _ _
   |exact ih2 _ _ _
   |exact zAd.mono _ _
   |exact LeO.none _
   |refine LeO.ite ?_ ?_
   |refine LeO.bind ?_ (fun _=>?_)
  ·intro y0 y1 y2
   unfold zAJ.j2
   repeat' first
   |(with_reducible exact ih0 _ _ _)
   |(with_reducible exact ih1 _ _ _)
   |(with_reducible exact ih2 _ _ _)
   |(with_reducible exact zAd.mono _ _)
   |(with_reducible exact LeO.refl _)
   |(with_reducible exact LeO.none _)
   |(with_reducible refine LeO.ite ?_ ?_)
   |(with_reducible refine LeO.bind ?_ (fun _=>?_))
   |exact ih0 _ _ _
   |exact ih1 _ _ _
   |exact ih2 _ _ _
   |exact zAd.mono _ _
   |exact LeO.none _
   |refine LeO.ite ?_ ?_
   |refine LeO.bind ?_ (fun _=>?_)
theorem zAJ.mono:∀ a0 a1 a2 a3 a4 a5 a6 k,LeO (zAJ.f k a0 a1 a2 a3 a4 a5 a6) (zAJ.f (k+1) a0 a1 a2 a3 a4 a5 a6):=by
 intro a0 a1 a2 a3 a4 a5 a6 k
 obtain ⟨ih0,ih1,ih2⟩:=zAJ.mono_l k
 unfold zAJ.f
 repeat' first
   |(with_reducible exact ih0 _ _ _)
   |(with_reducible exact ih1 _ _ _)
   |(with_reducible exact ih2 _ _ _)
   |(with_reducible exact zAd.mono _ _)
   |(with_reducible exact LeO.refl _)
   |(with_reducible exact LeO.none _)
   |(with_reducible refine LeO.ite ?_ ?_)
   |(with_reducible refine LeO.bind ?_ (fun _=>?_))
   |exact ih0 _ _ _
   |exact ih1 _ _ _
   |exact ih2 _ _ _
   |exact zAd.mono _ _
   |exact LeO.none _
   |refine LeO.ite ?_ ?_
   |refine LeO.bind ?_ (fun _=>?_)
set_option maxHeartbeats 8000000 in
set_option maxRecDepth 100000 in
theorem zAJ.calls (k:Nat) (a0_0:Int) (a0_1:Int) (a0_2:Int) (a0_3:Int) (A0_4:Option Addr) (c0_4:Nat) (l0_4:List (S45)) (a0_5:Int) (A1:Option Addr) (c1:Nat) (l1:List Int) (r:Int) (w:World) (hr0_4:Kd.C k45 w A0_4 l0_4.length l0_4) (hc0_4:l0_4.length≤c0_4) (hr1:Kd.C (Kd.int .i64) w A1 l1.length l1) (hc1:l1.length≤c1) (h:zAJ.f k a0_0 a0_1 a0_2 a0_3 l0_4 a0_5 l1=some r) :
  Calls Tryd.prog 54 #[.agg #[.int .i64 a0_0,.int .i64 a0_1,.int .i64 a0_2,.int .i64 a0_3,.slice A0_4 l0_4.length c0_4,.int .i64 a0_5],.slice A1 l1.length c1] w fun e w'=>e = .returned (.int .i64 r)∧Below w.heap.size w w':=by
 have hu33:=Tryd.underlying33
 have HR0_4:=aK_ hr0_4
 have HC0_4:=aK_ hc0_4
 clear hr0_4 hc0_4
 have HR1:=aK_ hr1
 have HC1:=aK_ hc1
 clear hr1 hc1
 have HB:=aK_ (Below.refl w.heap.size w)
 have H:(if a0_0=1 then (some 0) else (if a0_0=2 then (some 1) else (if a0_0=3 then (some (wrap64 (2+(wrap64 (2 * a0_1))))) else (if a0_0=4 then (some (wrap64 (3+(wrap64 (2 * a0_1))))) else (if a0_0=5 then (zAJ.j0 k l1 a0_0 (a0_0 == 5)) else (if a0_0=6 then (zAJ.j0 k l1 a0_0 (a0_0 == 6)) else (if a0_0=7 then (zAJ.j0 k l1 a0_0 (a0_0 == 7)) else (if a0_0=9 then (zAJ.j0 k l1 a0_0 (a0_0 == 9)) else (zAJ.j0 k l1 a0_0 (a0_0 == 10))))))))))=some r:=h
 clear h
 by_cases c3:a0_0=1
 ·rw [if_pos c3] at H
  have c3b0:(a0_0 == 1)=true:=beq_iff_eq.mpr c3
  have c3b1:(a0_0 != 1)=false:=bne_eq_false_iff_eq.mpr c3
  clear c3
  obtain rfl:=Option.some.inj H
  go_enter Tryd.func54,Tryd.ntmps54
  go_wp2_with (first|((with_reducible refine zAZ (N:=2) rfl ?_);refine zAW ?hg (N:=2) ?hd (cs:=#[.int .i64 a0_0,.int .i64 a0_1,.int .i64 a0_2,.int .i64 a0_3,.slice A0_4 l0_4.length c0_4,.int .i64 a0_5]) (t:=33) ?hr ?_;(case hd=>rfl);(case hg=>rfl);(case hr=>first|(go_simp;done)|(go_simp;rfl));intro gb714 hg w4 hbox hb;have n0_:=aK_ (zAG (aH_ HB.out) hb);have n1_:=aK_ (hbox);have n2_:=aK_ ((by rw [hg];exact (zAD (aH_ HB.out)):w.heap.size≤gb714));have n3_:=aK_ ((by rw [hg];exact (zAD (aH_ HB.out)):w.heap.size≤gb714));clear HB;have HB:=n0_;have BK714:=n1_;have GW714:=n2_;have GE714:=n3_;clear n0_ n1_ n2_ n3_;clear hb hbox hg;have hcz5_0:w4.cell? ⟨gb714,0,none⟩=some (.int .i64 a0_0):=(zAB BK714.out 0).trans rfl;have hcz5_1:w4.cell? ⟨gb714,1,none⟩=some (.int .i64 a0_1):=(zAB BK714.out 1).trans rfl;have hcz5_2:w4.cell? ⟨gb714,2,none⟩=some (.int .i64 a0_2):=(zAB BK714.out 2).trans rfl;have hcz5_3:w4.cell? ⟨gb714,3,none⟩=some (.int .i64 a0_3):=(zAB BK714.out 3).trans rfl;have hcz5_4:w4.cell? ⟨gb714,4,none⟩=some (.slice A0_4 l0_4.length c0_4):=(zAB BK714.out 4).trans rfl;have hcz5_5:w4.cell? ⟨gb714,5,none⟩=some (.int .i64 a0_5):=(zAB BK714.out 5).trans rfl;have hfz5_0:=zAA BK714.out 0;have hfz5_1:=zAA BK714.out 1;have hfz5_2:=zAA BK714.out 2;have hfz5_3:=zAA BK714.out 3;have hfz5_4:=zAA BK714.out 4;have hfz5_5:=zAA BK714.out 5))
  repeat (go_quiet (first|((with_reducible refine zAZ (N:=2) rfl ?_);refine zAW ?hg (N:=2) ?hd (cs:=#[.int .i64 a0_0,.int .i64 a0_1,.int .i64 a0_2,.int .i64 a0_3,.slice A0_4 l0_4.length c0_4,.int .i64 a0_5]) (t:=33) ?hr ?_;(case hd=>rfl);(case hg=>rfl);(case hr=>first|(go_simp;done)|(go_simp;rfl));intro gb714 hg w4 hbox hb;have n0_:=aK_ (zAG (aH_ HB.out) hb);have n1_:=aK_ (hbox);have n2_:=aK_ ((by rw [hg];exact (zAD (aH_ HB.out)):w.heap.size≤gb714));have n3_:=aK_ ((by rw [hg];exact (zAD (aH_ HB.out)):w.heap.size≤gb714));clear HB;have HB:=n0_;have BK714:=n1_;have GW714:=n2_;have GE714:=n3_;clear n0_ n1_ n2_ n3_;clear hb hbox hg;have hcz5_0:w4.cell? ⟨gb714,0,none⟩=some (.int .i64 a0_0):=(zAB BK714.out 0).trans rfl;have hcz5_1:w4.cell? ⟨gb714,1,none⟩=some (.int .i64 a0_1):=(zAB BK714.out 1).trans rfl;have hcz5_2:w4.cell? ⟨gb714,2,none⟩=some (.int .i64 a0_2):=(zAB BK714.out 2).trans rfl;have hcz5_3:w4.cell? ⟨gb714,3,none⟩=some (.int .i64 a0_3):=(zAB BK714.out 3).trans rfl;have hcz5_4:w4.cell? ⟨gb714,4,none⟩=some (.slice A0_4 l0_4.length c0_4):=(zAB BK714.out 4).trans rfl;have hcz5_5:w4.cell? ⟨gb714,5,none⟩=some (.int .i64 a0_5):=(zAB BK714.out 5).trans rfl;have hfz5_0:=zAA BK714.out 0;have hfz5_1:=zAA BK714.out 1;have hfz5_2:=zAA BK714.out 2;have hfz5_3:=zAA BK714.out 3;have hfz5_4:=zAA BK714.out 4;have hfz5_5:=zAA BK714.out 5));try go_wp2_with (first|((with_reducible refine zAZ (N:=2) rfl ?_);refine zAW ?hg (N:=2) ?hd (cs:=#[.int .i64 a0_0,.int .i64 a0_1,.int .i64 a0_2,.int .i64 a0_3,.slice A0_4 l0_4.length c0_4,.int .i64 a0_5]) (t:=33) ?hr ?_;(case hd=>rfl);(case hg=>rfl);(case hr=>first|(go_simp;done)|(go_simp;rfl));intro gb714 hg w4 hbox hb;have n0_:=aK_ (zAG (aH_ HB.out) hb);have n1_:=aK_ (hbox);have n2_:=aK_ ((by rw [hg];exact (zAD (aH_ HB.out)):w.heap.size≤gb714));have n3_:=aK_ ((by rw [hg];exact (zAD (aH_ HB.out)):w.heap.size≤gb714));clear HB;have HB:=n0_;have BK714:=n1_;have GW714:=n2_;have GE714:=n3_;clear n0_ n1_ n2_ n3_;clear hb hbox hg;have hcz5_0:w4.cell? ⟨gb714,0,none⟩=some (.int .i64 a0_0):=(zAB BK714.out 0).trans rfl;have hcz5_1:w4.cell? ⟨gb714,1,none⟩=some (.int .i64 a0_1):=(zAB BK714.out 1).trans rfl;have hcz5_2:w4.cell? ⟨gb714,2,none⟩=some (.int .i64 a0_2):=(zAB BK714.out 2).trans rfl;have hcz5_3:w4.cell? ⟨gb714,3,none⟩=some (.int .i64 a0_3):=(zAB BK714.out 3).trans rfl;have hcz5_4:w4.cell? ⟨gb714,4,none⟩=some (.slice A0_4 l0_4.length c0_4):=(zAB BK714.out 4).trans rfl;have hcz5_5:w4.cell? ⟨gb714,5,none⟩=some (.int .i64 a0_5):=(zAB BK714.out 5).trans rfl;have hfz5_0:=zAA BK714.out 0;have hfz5_1:=zAA BK714.out 1;have hfz5_2:=zAA BK714.out 2;have hfz5_3:=zAA BK714.out 3;have hfz5_4:=zAA BK714.out 4;have hfz5_5:=zAA BK714.out 5)))
  go_ret
  exact ⟨by first|rfl|(simp [zAE,zAF] <;> rfl)|(simp [*,zAE,zAF] <;> rfl),aI_ HB.out GE714.out⟩
 rw [if_neg c3] at H
 have c3b0:(a0_0 == 1)=false:=beq_eq_false_iff_ne.mpr c3
 have c3b1:(a0_0 != 1)=true:=bne_iff_ne.mpr c3
 by_cases c6:a0_0=2
 ·rw [if_pos c6] at H
  have c6b0:(a0_0 == 2)=true:=beq_iff_eq.mpr c6
  have c6b1:(a0_0 != 2)=false:=bne_eq_false_iff_eq.mpr c6
  clear c6
  obtain rfl:=Option.some.inj H
  go_enter Tryd.func54,Tryd.ntmps54
  go_wp2_with (first|((with_reducible refine zAZ (N:=2) rfl ?_);refine zAW ?hg (N:=2) ?hd (cs:=#[.int .i64 a0_0,.int .i64 a0_1,.int .i64 a0_2,.int .i64 a0_3,.slice A0_4 l0_4.length c0_4,.int .i64 a0_5]) (t:=33) ?hr ?_;(case hd=>rfl);(case hg=>rfl);(case hr=>first|(go_simp;done)|(go_simp;rfl));intro gb714 hg w7 hbox hb;have n0_:=aK_ (zAG (aH_ HB.out) hb);have n1_:=aK_ (hbox);have n2_:=aK_ ((by rw [hg];exact (zAD (aH_ HB.out)):w.heap.size≤gb714));have n3_:=aK_ ((by rw [hg];exact (zAD (aH_ HB.out)):w.heap.size≤gb714));clear HB;have HB:=n0_;have BK714:=n1_;have GW714:=n2_;have GE714:=n3_;clear n0_ n1_ n2_ n3_;clear hb hbox hg;have hcz8_0:w7.cell? ⟨gb714,0,none⟩=some (.int .i64 a0_0):=(zAB BK714.out 0).trans rfl;have hcz8_1:w7.cell? ⟨gb714,1,none⟩=some (.int .i64 a0_1):=(zAB BK714.out 1).trans rfl;have hcz8_2:w7.cell? ⟨gb714,2,none⟩=some (.int .i64 a0_2):=(zAB BK714.out 2).trans rfl;have hcz8_3:w7.cell? ⟨gb714,3,none⟩=some (.int .i64 a0_3):=(zAB BK714.out 3).trans rfl;have hcz8_4:w7.cell? ⟨gb714,4,none⟩=some (.slice A0_4 l0_4.length c0_4):=(zAB BK714.out 4).trans rfl;have hcz8_5:w7.cell? ⟨gb714,5,none⟩=some (.int .i64 a0_5):=(zAB BK714.out 5).trans rfl;have hfz8_0:=zAA BK714.out 0;have hfz8_1:=zAA BK714.out 1;have hfz8_2:=zAA BK714.out 2;have hfz8_3:=zAA BK714.out 3;have hfz8_4:=zAA BK714.out 4;have hfz8_5:=zAA BK714.out 5))
  repeat (go_quiet (first|((with_reducible refine zAZ (N:=2) rfl ?_);refine zAW ?hg (N:=2) ?hd (cs:=#[.int .i64 a0_0,.int .i64 a0_1,.int .i64 a0_2,.int .i64 a0_3,.slice A0_4 l0_4.length c0_4,.int .i64 a0_5]) (t:=33) ?hr ?_;(case hd=>rfl);(case hg=>rfl);(case hr=>first|(go_simp;done)|(go_simp;rfl));intro gb714 hg w7 hbox hb;have n0_:=aK_ (zAG (aH_ HB.out) hb);have n1_:=aK_ (hbox);have n2_:=aK_ ((by rw [hg];exact (zAD (aH_ HB.out)):w.heap.size≤gb714));have n3_:=aK_ ((by rw [hg];exact (zAD (aH_ HB.out)):w.heap.size≤gb714));clear HB;have HB:=n0_;have BK714:=n1_;have GW714:=n2_;have GE714:=n3_;clear n0_ n1_ n2_ n3_;clear hb hbox hg;have hcz8_0:w7.cell? ⟨gb714,0,none⟩=some (.int .i64 a0_0):=(zAB BK714.out 0).trans rfl;have hcz8_1:w7.cell? ⟨gb714,1,none⟩=some (.int .i64 a0_1):=(zAB BK714.out 1).trans rfl;have hcz8_2:w7.cell? ⟨gb714,2,none⟩=some (.int .i64 a0_2):=(zAB BK714.out 2).trans rfl;have hcz8_3:w7.cell? ⟨gb714,3,none⟩=some (.int .i64 a0_3):=(zAB BK714.out 3).trans rfl;have hcz8_4:w7.cell? ⟨gb714,4,none⟩=some (.slice A0_4 l0_4.length c0_4):=(zAB BK714.out 4).trans rfl;have hcz8_5:w7.cell? ⟨gb714,5,none⟩=some (.int .i64 a0_5):=(zAB BK714.out 5).trans rfl;have hfz8_0:=zAA BK714.out 0;have hfz8_1:=zAA BK714.out 1;have hfz8_2:=zAA BK714.out 2;have hfz8_3:=zAA BK714.out 3;have hfz8_4:=zAA BK714.out 4;have hfz8_5:=zAA BK714.out 5));try go_wp2_with (first|((with_reducible refine zAZ (N:=2) rfl ?_);refine zAW ?hg (N:=2) ?hd (cs:=#[.int .i64 a0_0,.int .i64 a0_1,.int .i64 a0_2,.int .i64 a0_3,.slice A0_4 l0_4.length c0_4,.int .i64 a0_5]) (t:=33) ?hr ?_;(case hd=>rfl);(case hg=>rfl);(case hr=>first|(go_simp;done)|(go_simp;rfl));intro gb714 hg w7 hbox hb;have n0_:=aK_ (zAG (aH_ HB.out) hb);have n1_:=aK_ (hbox);have n2_:=aK_ ((by rw [hg];exact (zAD (aH_ HB.out)):w.heap.size≤gb714));have n3_:=aK_ ((by rw [hg];exact (zAD (aH_ HB.out)):w.heap.size≤gb714));clear HB;have HB:=n0_;have BK714:=n1_;have GW714:=n2_;have GE714:=n3_;clear n0_ n1_ n2_ n3_;clear hb hbox hg;have hcz8_0:w7.cell? ⟨gb714,0,none⟩=some (.int .i64 a0_0):=(zAB BK714.out 0).trans rfl;have hcz8_1:w7.cell? ⟨gb714,1,none⟩=some (.int .i64 a0_1):=(zAB BK714.out 1).trans rfl;have hcz8_2:w7.cell? ⟨gb714,2,none⟩=some (.int .i64 a0_2):=(zAB BK714.out 2).trans rfl;have hcz8_3:w7.cell? ⟨gb714,3,none⟩=some (.int .i64 a0_3):=(zAB BK714.out 3).trans rfl;have hcz8_4:w7.cell? ⟨gb714,4,none⟩=some (.slice A0_4 l0_4.length c0_4):=(zAB BK714.out 4).trans rfl;have hcz8_5:w7.cell? ⟨gb714,5,none⟩=some (.int .i64 a0_5):=(zAB BK714.out 5).trans rfl;have hfz8_0:=zAA BK714.out 0;have hfz8_1:=zAA BK714.out 1;have hfz8_2:=zAA BK714.out 2;have hfz8_3:=zAA BK714.out 3;have hfz8_4:=zAA BK714.out 4;have hfz8_5:=zAA BK714.out 5)))
  go_ret
  exact ⟨by first|rfl|(simp [zAE,zAF] <;> rfl)|(simp [*,zAE,zAF] <;> rfl),aI_ HB.out GE714.out⟩
 rw [if_neg c6] at H
 have c6b0:(a0_0 == 2)=false:=beq_eq_false_iff_ne.mpr c6
 have c6b1:(a0_0 != 2)=true:=bne_iff_ne.mpr c6
 by_cases c9:a0_0=3
 ·rw [if_pos c9] at H
  have c9b0:(a0_0 == 3)=true:=beq_iff_eq.mpr c9
  have c9b1:(a0_0 != 3)=false:=bne_eq_false_iff_eq.mpr c9
  clear c9
  obtain rfl:=Option.some.inj H
  go_enter Tryd.func54,Tryd.ntmps54
  go_wp2_with (first|((with_reducible refine zAZ (N:=2) rfl ?_);refine zAW ?hg (N:=2) ?hd (cs:=#[.int .i64 a0_0,.int .i64 a0_1,.int .i64 a0_2,.int .i64 a0_3,.slice A0_4 l0_4.length c0_4,.int .i64 a0_5]) (t:=33) ?hr ?_;(case hd=>rfl);(case hg=>rfl);(case hr=>first|(go_simp;done)|(go_simp;rfl));intro gb714 hg w10 hbox hb;have n0_:=aK_ (zAG (aH_ HB.out) hb);have n1_:=aK_ (hbox);have n2_:=aK_ ((by rw [hg];exact (zAD (aH_ HB.out)):w.heap.size≤gb714));have n3_:=aK_ ((by rw [hg];exact (zAD (aH_ HB.out)):w.heap.size≤gb714));clear HB;have HB:=n0_;have BK714:=n1_;have GW714:=n2_;have GE714:=n3_;clear n0_ n1_ n2_ n3_;clear hb hbox hg;have hcz11_0:w10.cell? ⟨gb714,0,none⟩=some (.int .i64 a0_0):=(zAB BK714.out 0).trans rfl;have hcz11_1:w10.cell? ⟨gb714,1,none⟩=some (.int .i64 a0_1):=(zAB BK714.out 1).trans rfl;have hcz11_2:w10.cell? ⟨gb714,2,none⟩=some (.int .i64 a0_2):=(zAB BK714.out 2).trans rfl;have hcz11_3:w10.cell? ⟨gb714,3,none⟩=some (.int .i64 a0_3):=(zAB BK714.out 3).trans rfl;have hcz11_4:w10.cell? ⟨gb714,4,none⟩=some (.slice A0_4 l0_4.length c0_4):=(zAB BK714.out 4).trans rfl;have hcz11_5:w10.cell? ⟨gb714,5,none⟩=some (.int .i64 a0_5):=(zAB BK714.out 5).trans rfl;have hfz11_0:=zAA BK714.out 0;have hfz11_1:=zAA BK714.out 1;have hfz11_2:=zAA BK714.out 2;have hfz11_3:=zAA BK714.out 3;have hfz11_4:=zAA BK714.out 4;have hfz11_5:=zAA BK714.out 5))
  repeat (go_quiet (first|((with_reducible refine zAZ (N:=2) rfl ?_);refine zAW ?hg (N:=2) ?hd (cs:=#[.int .i64 a0_0,.int .i64 a0_1,.int .i64 a0_2,.int .i64 a0_3,.slice A0_4 l0_4.length c0_4,.int .i64 a0_5]) (t:=33) ?hr ?_;(case hd=>rfl);(case hg=>rfl);(case hr=>first|(go_simp;done)|(go_simp;rfl));intro gb714 hg w10 hbox hb;have n0_:=aK_ (zAG (aH_ HB.out) hb);have n1_:=aK_ (hbox);have n2_:=aK_ ((by rw [hg];exact (zAD (aH_ HB.out)):w.heap.size≤gb714));have n3_:=aK_ ((by rw [hg];exact (zAD (aH_ HB.out)):w.heap.size≤gb714));clear HB;have HB:=n0_;have BK714:=n1_;have GW714:=n2_;have GE714:=n3_;clear n0_ n1_ n2_ n3_;clear hb hbox hg;have hcz11_0:w10.cell? ⟨gb714,0,none⟩=some (.int .i64 a0_0):=(zAB BK714.out 0).trans rfl;have hcz11_1:w10.cell? ⟨gb714,1,none⟩=some (.int .i64 a0_1):=(zAB BK714.out 1).trans rfl;have hcz11_2:w10.cell? ⟨gb714,2,none⟩=some (.int .i64 a0_2):=(zAB BK714.out 2).trans rfl;have hcz11_3:w10.cell? ⟨gb714,3,none⟩=some (.int .i64 a0_3):=(zAB BK714.out 3).trans rfl;have hcz11_4:w10.cell? ⟨gb714,4,none⟩=some (.slice A0_4 l0_4.length c0_4):=(zAB BK714.out 4).trans rfl;have hcz11_5:w10.cell? ⟨gb714,5,none⟩=some (.int .i64 a0_5):=(zAB BK714.out 5).trans rfl;have hfz11_0:=zAA BK714.out 0;have hfz11_1:=zAA BK714.out 1;have hfz11_2:=zAA BK714.out 2;have hfz11_3:=zAA BK714.out 3;have hfz11_4:=zAA BK714.out 4;have hfz11_5:=zAA BK714.out 5));try go_wp2_with (first|((with_reducible refine zAZ (N:=2) rfl ?_);refine zAW ?hg (N:=2) ?hd (cs:=#[.int .i64 a0_0,.int .i64 a0_1,.int .i64 a0_2,.int .i64 a0_3,.slice A0_4 l0_4.length c0_4,.int .i64 a0_5]) (t:=33) ?hr ?_;(case hd=>rfl);(case hg=>rfl);(case hr=>first|(go_simp;done)|(go_simp;rfl));intro gb714 hg w10 hbox hb;have n0_:=aK_ (zAG (aH_ HB.out) hb);have n1_:=aK_ (hbox);have n2_:=aK_ ((by rw [hg];exact (zAD (aH_ HB.out)):w.heap.size≤gb714));have n3_:=aK_ ((by rw [hg];exact (zAD (aH_ HB.out)):w.heap.size≤gb714));clear HB;have HB:=n0_;have BK714:=n1_;have GW714:=n2_;have GE714:=n3_;clear n0_ n1_ n2_ n3_;clear hb hbox hg;have hcz11_0:w10.cell? ⟨gb714,0,none⟩=some (.int .i64 a0_0):=(zAB BK714.out 0).trans rfl;have hcz11_1:w10.cell? ⟨gb714,1,none⟩=some (.int .i64 a0_1):=(zAB BK714.out 1).trans rfl;have hcz11_2:w10.cell? ⟨gb714,2,none⟩=some (.int .i64 a0_2):=(zAB BK714.out 2).trans rfl;have hcz11_3:w10.cell? ⟨gb714,3,none⟩=some (.int .i64 a0_3):=(zAB BK714.out 3).trans rfl;have hcz11_4:w10.cell? ⟨gb714,4,none⟩=some (.slice A0_4 l0_4.length c0_4):=(zAB BK714.out 4).trans rfl;have hcz11_5:w10.cell? ⟨gb714,5,none⟩=some (.int .i64 a0_5):=(zAB BK714.out 5).trans rfl;have hfz11_0:=zAA BK714.out 0;have hfz11_1:=zAA BK714.out 1;have hfz11_2:=zAA BK714.out 2;have hfz11_3:=zAA BK714.out 3;have hfz11_4:=zAA BK714.out 4;have hfz11_5:=zAA BK714.out 5)))
  go_ret
  exact ⟨by first|rfl|(simp [zAE,zAF] <;> rfl)|(simp [*,zAE,zAF] <;> rfl),aI_ HB.out GE714.out⟩
 rw [if_neg c9] at H
 have c9b0:(a0_0 == 3)=false:=beq_eq_false_iff_ne.mpr c9
 have c9b1:(a0_0 != 3)=true:=bne_iff_ne.mpr c9
 by_cases c12:a0_0=4
 ·rw [if_pos c12] at H
  have c12b0:(a0_0 == 4)=true:=beq_iff_eq.mpr c12
  have c12b1:(a0_0 != 4)=false:=bne_eq_false_iff_eq.mpr c12
  clear c12
  obtain rfl:=Option.some.inj H
  go_enter Tryd.func54,Tryd.ntmps54
  go_wp2_with (first|((with_reducible refine zAZ (N:=2) rfl ?_);refine zAW ?hg (N:=2) ?hd (cs:=#[.int .i64 a0_0,.int .i64 a0_1,.int .i64 a0_2,.int .i64 a0_3,.slice A0_4 l0_4.length c0_4,.int .i64 a0_5]) (t:=33) ?hr ?_;(case hd=>rfl);(case hg=>rfl);(case hr=>first|(go_simp;done)|(go_simp;rfl));intro gb714 hg w13 hbox hb;have n0_:=aK_ (zAG (aH_ HB.out) hb);have n1_:=aK_ (hbox);have n2_:=aK_ ((by rw [hg];exact (zAD (aH_ HB.out)):w.heap.size≤gb714));have n3_:=aK_ ((by rw [hg];exact (zAD (aH_ HB.out)):w.heap.size≤gb714));clear HB;have HB:=n0_;have BK714:=n1_;have GW714:=n2_;have GE714:=n3_;clear n0_ n1_ n2_ n3_;clear hb hbox hg;have hcz14_0:w13.cell? ⟨gb714,0,none⟩=some (.int .i64 a0_0):=(zAB BK714.out 0).trans rfl;have hcz14_1:w13.cell? ⟨gb714,1,none⟩=some (.int .i64 a0_1):=(zAB BK714.out 1).trans rfl;have hcz14_2:w13.cell? ⟨gb714,2,none⟩=some (.int .i64 a0_2):=(zAB BK714.out 2).trans rfl;have hcz14_3:w13.cell? ⟨gb714,3,none⟩=some (.int .i64 a0_3):=(zAB BK714.out 3).trans rfl;have hcz14_4:w13.cell? ⟨gb714,4,none⟩=some (.slice A0_4 l0_4.length c0_4):=(zAB BK714.out 4).trans rfl;have hcz14_5:w13.cell? ⟨gb714,5,none⟩=some (.int .i64 a0_5):=(zAB BK714.out 5).trans rfl;have hfz14_0:=zAA BK714.out 0;have hfz14_1:=zAA BK714.out 1;have hfz14_2:=zAA BK714.out 2;have hfz14_3:=zAA BK714.out 3;have hfz14_4:=zAA BK714.out 4;have hfz14_5:=zAA BK714.out 5))
  repeat (go_quiet (first|((with_reducible refine zAZ (N:=2) rfl ?_);refine zAW ?hg (N:=2) ?hd (cs:=#[.int .i64 a0_0,.int .i64 a0_1,.int .i64 a0_2,.int .i64 a0_3,.slice A0_4 l0_4.length c0_4,.int .i64 a0_5]) (t:=33) ?hr ?_;(case hd=>rfl);(case hg=>rfl);(case hr=>first|(go_simp;done)|(go_simp;rfl));intro gb714 hg w13 hbox hb;have n0_:=aK_ (zAG (aH_ HB.out) hb);have n1_:=aK_ (hbox);have n2_:=aK_ ((by rw [hg];exact (zAD (aH_ HB.out)):w.heap.size≤gb714));have n3_:=aK_ ((by rw [hg];exact (zAD (aH_ HB.out)):w.heap.size≤gb714));clear HB;have HB:=n0_;have BK714:=n1_;have GW714:=n2_;have GE714:=n3_;clear n0_ n1_ n2_ n3_;clear hb hbox hg;have hcz14_0:w13.cell? ⟨gb714,0,none⟩=some (.int .i64 a0_0):=(zAB BK714.out 0).trans rfl;have hcz14_1:w13.cell? ⟨gb714,1,none⟩=some (.int .i64 a0_1):=(zAB BK714.out 1).trans rfl;have hcz14_2:w13.cell? ⟨gb714,2,none⟩=some (.int .i64 a0_2):=(zAB BK714.out 2).trans rfl;have hcz14_3:w13.cell? ⟨gb714,3,none⟩=some (.int .i64 a0_3):=(zAB BK714.out 3).trans rfl;have hcz14_4:w13.cell? ⟨gb714,4,none⟩=some (.slice A0_4 l0_4.length c0_4):=(zAB BK714.out 4).trans rfl;have hcz14_5:w13.cell? ⟨gb714,5,none⟩=some (.int .i64 a0_5):=(zAB BK714.out 5).trans rfl;have hfz14_0:=zAA BK714.out 0;have hfz14_1:=zAA BK714.out 1;have hfz14_2:=zAA BK714.out 2;have hfz14_3:=zAA BK714.out 3;have hfz14_4:=zAA BK714.out 4;have hfz14_5:=zAA BK714.out 5));try go_wp2_with (first|((with_reducible refine zAZ (N:=2) rfl ?_);refine zAW ?hg (N:=2) ?hd (cs:=#[.int .i64 a0_0,.int .i64 a0_1,.int .i64 a0_2,.int .i64 a0_3,.slice A0_4 l0_4.length c0_4,.int .i64 a0_5]) (t:=33) ?hr ?_;(case hd=>rfl);(case hg=>rfl);(case hr=>first|(go_simp;done)|(go_simp;rfl));intro gb714 hg w13 hbox hb;have n0_:=aK_ (zAG (aH_ HB.out) hb);have n1_:=aK_ (hbox);have n2_:=aK_ ((by rw [hg];exact (zAD (aH_ HB.out)):w.heap.size≤gb714));have n3_:=aK_ ((by rw [hg];exact (zAD (aH_ HB.out)):w.heap.size≤gb714));clear HB;have HB:=n0_;have BK714:=n1_;have GW714:=n2_;have GE714:=n3_;clear n0_ n1_ n2_ n3_;clear hb hbox hg;have hcz14_0:w13.cell? ⟨gb714,0,none⟩=some (.int .i64 a0_0):=(zAB BK714.out 0).trans rfl;have hcz14_1:w13.cell? ⟨gb714,1,none⟩=some (.int .i64 a0_1):=(zAB BK714.out 1).trans rfl;have hcz14_2:w13.cell? ⟨gb714,2,none⟩=some (.int .i64 a0_2):=(zAB BK714.out 2).trans rfl;have hcz14_3:w13.cell? ⟨gb714,3,none⟩=some (.int .i64 a0_3):=(zAB BK714.out 3).trans rfl;have hcz14_4:w13.cell? ⟨gb714,4,none⟩=some (.slice A0_4 l0_4.length c0_4):=(zAB BK714.out 4).trans rfl;have hcz14_5:w13.cell? ⟨gb714,5,none⟩=some (.int .i64 a0_5):=(zAB BK714.out 5).trans rfl;have hfz14_0:=zAA BK714.out 0;have hfz14_1:=zAA BK714.out 1;have hfz14_2:=zAA BK714.out 2;have hfz14_3:=zAA BK714.out 3;have hfz14_4:=zAA BK714.out 4;have hfz14_5:=zAA BK714.out 5)))
  go_ret
  exact ⟨by first|rfl|(simp [zAE,zAF] <;> rfl)|(simp [*,zAE,zAF] <;> rfl),aI_ HB.out GE714.out⟩
 rw [if_neg c12] at H
 have c12b0:(a0_0 == 4)=false:=beq_eq_false_iff_ne.mpr c12
 have c12b1:(a0_0 != 4)=true:=bne_iff_ne.mpr c12
 have HC15:=aK_ H
 clear H
 go_enter Tryd.func54,Tryd.ntmps54
 go_upto_if 23 with (first|((with_reducible refine zAZ (N:=2) rfl ?_);refine zAW ?hg (N:=2) ?hd (cs:=#[.int .i64 a0_0,.int .i64 a0_1,.int .i64 a0_2,.int .i64 a0_3,.slice A0_4 l0_4.length c0_4,.int .i64 a0_5]) (t:=33) ?hr ?_;(case hd=>rfl);(case hg=>rfl);(case hr=>first|(go_simp;done)|(go_simp;rfl));intro gb714 hg w16 hbox hb;have n0_:=aK_ (zAG (aH_ HB.out) hb);have n1_:=aK_ (hbox);have n2_:=aK_ ((by rw [hg];exact (zAD (aH_ HB.out)):w.heap.size≤gb714));have n3_:=aK_ ((by rw [hg];exact (zAD (aH_ HB.out)):w.heap.size≤gb714));clear HB;have HB:=n0_;have BK714:=n1_;have GW714:=n2_;have GE714:=n3_;clear n0_ n1_ n2_ n3_;clear hb hbox hg;have hcz17_0:w16.cell? ⟨gb714,0,none⟩=some (.int .i64 a0_0):=(zAB BK714.out 0).trans rfl;have hcz17_1:w16.cell? ⟨gb714,1,none⟩=some (.int .i64 a0_1):=(zAB BK714.out 1).trans rfl;have hcz17_2:w16.cell? ⟨gb714,2,none⟩=some (.int .i64 a0_2):=(zAB BK714.out 2).trans rfl;have hcz17_3:w16.cell? ⟨gb714,3,none⟩=some (.int .i64 a0_3):=(zAB BK714.out 3).trans rfl;have hcz17_4:w16.cell? ⟨gb714,4,none⟩=some (.slice A0_4 l0_4.length c0_4):=(zAB BK714.out 4).trans rfl;have hcz17_5:w16.cell? ⟨gb714,5,none⟩=some (.int .i64 a0_5):=(zAB BK714.out 5).trans rfl;have hfz17_0:=zAA BK714.out 0;have hfz17_1:=zAA BK714.out 1;have hfz17_2:=zAA BK714.out 2;have hfz17_3:=zAA BK714.out 3;have hfz17_4:=zAA BK714.out 4;have hfz17_5:=zAA BK714.out 5))
 repeat (go_quiet (first|((with_reducible refine zAZ (N:=2) rfl ?_);refine zAW ?hg (N:=2) ?hd (cs:=#[.int .i64 a0_0,.int .i64 a0_1,.int .i64 a0_2,.int .i64 a0_3,.slice A0_4 l0_4.length c0_4,.int .i64 a0_5]) (t:=33) ?hr ?_;(case hd=>rfl);(case hg=>rfl);(case hr=>first|(go_simp;done)|(go_simp;rfl));intro gb714 hg w16 hbox hb;have n0_:=aK_ (zAG (aH_ HB.out) hb);have n1_:=aK_ (hbox);have n2_:=aK_ ((by rw [hg];exact (zAD (aH_ HB.out)):w.heap.size≤gb714));have n3_:=aK_ ((by rw [hg];exact (zAD (aH_ HB.out)):w.heap.size≤gb714));clear HB;have HB:=n0_;have BK714:=n1_;have GW714:=n2_;have GE714:=n3_;clear n0_ n1_ n2_ n3_;clear hb hbox hg;have hcz17_0:w16.cell? ⟨gb714,0,none⟩=some (.int .i64 a0_0):=(zAB BK714.out 0).trans rfl;have hcz17_1:w16.cell? ⟨gb714,1,none⟩=some (.int .i64 a0_1):=(zAB BK714.out 1).trans rfl;have hcz17_2:w16.cell? ⟨gb714,2,none⟩=some (.int .i64 a0_2):=(zAB BK714.out 2).trans rfl;have hcz17_3:w16.cell? ⟨gb714,3,none⟩=some (.int .i64 a0_3):=(zAB BK714.out 3).trans rfl;have hcz17_4:w16.cell? ⟨gb714,4,none⟩=some (.slice A0_4 l0_4.length c0_4):=(zAB BK714.out 4).trans rfl;have hcz17_5:w16.cell? ⟨gb714,5,none⟩=some (.int .i64 a0_5):=(zAB BK714.out 5).trans rfl;have hfz17_0:=zAA BK714.out 0;have hfz17_1:=zAA BK714.out 1;have hfz17_2:=zAA BK714.out 2;have hfz17_3:=zAA BK714.out 3;have hfz17_4:=zAA BK714.out 4;have hfz17_5:=zAA BK714.out 5));go_upto_if 23 with (first|((with_reducible refine zAZ (N:=2) rfl ?_);refine zAW ?hg (N:=2) ?hd (cs:=#[.int .i64 a0_0,.int .i64 a0_1,.int .i64 a0_2,.int .i64 a0_3,.slice A0_4 l0_4.length c0_4,.int .i64 a0_5]) (t:=33) ?hr ?_;(case hd=>rfl);(case hg=>rfl);(case hr=>first|(go_simp;done)|(go_simp;rfl));intro gb714 hg w16 hbox hb;have n0_:=aK_ (zAG (aH_ HB.out) hb);have n1_:=aK_ (hbox);have n2_:=aK_ ((by rw [hg];exact (zAD (aH_ HB.out)):w.heap.size≤gb714));have n3_:=aK_ ((by rw [hg];exact (zAD (aH_ HB.out)):w.heap.size≤gb714));clear HB;have HB:=n0_;have BK714:=n1_;have GW714:=n2_;have GE714:=n3_;clear n0_ n1_ n2_ n3_;clear hb hbox hg;have hcz17_0:w16.cell? ⟨gb714,0,none⟩=some (.int .i64 a0_0):=(zAB BK714.out 0).trans rfl;have hcz17_1:w16.cell? ⟨gb714,1,none⟩=some (.int .i64 a0_1):=(zAB BK714.out 1).trans rfl;have hcz17_2:w16.cell? ⟨gb714,2,none⟩=some (.int .i64 a0_2):=(zAB BK714.out 2).trans rfl;have hcz17_3:w16.cell? ⟨gb714,3,none⟩=some (.int .i64 a0_3):=(zAB BK714.out 3).trans rfl;have hcz17_4:w16.cell? ⟨gb714,4,none⟩=some (.slice A0_4 l0_4.length c0_4):=(zAB BK714.out 4).trans rfl;have hcz17_5:w16.cell? ⟨gb714,5,none⟩=some (.int .i64 a0_5):=(zAB BK714.out 5).trans rfl;have hfz17_0:=zAA BK714.out 0;have hfz17_1:=zAA BK714.out 1;have hfz17_2:=zAA BK714.out 2;have hfz17_3:=zAA BK714.out 3;have hfz17_4:=zAA BK714.out 4;have hfz17_5:=zAA BK714.out 5)))
 (try simp only [Act.put,List.setIfInBounds_toArray,List.set_cons_zero,List.set_cons_succ])
 go_cut [23] (fun v23 wc=>∃ (kq:Nat) (x23_14:Bool),v23 = .bool x23_14∧zAa (zAJ.j0 kq l1 a0_0 x23_14=some r)∧zAa (kq≤k)∧zAa (wc.heap[gb714]?=some (.cells #[.int .i64 a0_0,.int .i64 a0_1,.int .i64 a0_2,.int .i64 a0_3,(.slice A0_4 l0_4.length c0_4),.int .i64 a0_5] 33 (0,0)))∧zAa (Below w.heap.size w wc))
 case first =>
  have H:=HC15.out
  clear HC15
  by_cases c18:a0_0=5
  ·rw [if_pos c18] at H
   have c18b0:(a0_0 == 5)=true:=beq_iff_eq.mpr c18
   have c18b1:(a0_0 != 5)=false:=bne_eq_false_iff_eq.mpr c18
   clear c18
   (first|rw [c18b0]|(simp only [i64_w,i32_w];rw [c18b0])|skip)
   have H':=aK_ H
   clear H
   go_wp2
   repeat (go_quiet (fail);try go_wp2)
   go_meet
   case rel=>exact ⟨_,((a0_0 == 5)),aS2_,H',⟨by first|omega|exact Nat.le_refl _⟩,⟨aB_ BK714.out⟩,⟨aI_ HB.out GE714.out⟩⟩
  rw [if_neg c18] at H
  have c18b0:(a0_0 == 5)=false:=beq_eq_false_iff_ne.mpr c18
  have c18b1:(a0_0 != 5)=true:=bne_iff_ne.mpr c18
  (first|rw [c18b0]|(simp only [i64_w,i32_w];rw [c18b0])|skip)
  by_cases c19:a0_0=6
  ·rw [if_pos c19] at H
   have c19b0:(a0_0 == 6)=true:=beq_iff_eq.mpr c19
   have c19b1:(a0_0 != 6)=false:=bne_eq_false_iff_eq.mpr c19
   clear c19
   have H':=aK_ H
   clear H
   go_wp2
   repeat (go_quiet (fail);try go_wp2)
   go_meet
   case rel=>exact ⟨_,((a0_0 == 6)),aS2_,H',⟨by first|omega|exact Nat.le_refl _⟩,⟨aB_ BK714.out⟩,⟨aI_ HB.out GE714.out⟩⟩
  rw [if_neg c19] at H
  have c19b0:(a0_0 == 6)=false:=beq_eq_false_iff_ne.mpr c19
  have c19b1:(a0_0 != 6)=true:=bne_iff_ne.mpr c19
  by_cases c20:a0_0=7
  ·rw [if_pos c20] at H
   have c20b0:(a0_0 == 7)=true:=beq_iff_eq.mpr c20
   have c20b1:(a0_0 != 7)=false:=bne_eq_false_iff_eq.mpr c20
   clear c20
   have H':=aK_ H
   clear H
   go_wp2
   repeat (go_quiet (fail);try go_wp2)
   go_meet
   case rel=>exact ⟨_,((a0_0 == 7)),aS2_,H',⟨by first|omega|exact Nat.le_refl _⟩,⟨aB_ BK714.out⟩,⟨aI_ HB.out GE714.out⟩⟩
  rw [if_neg c20] at H
  have c20b0:(a0_0 == 7)=false:=beq_eq_false_iff_ne.mpr c20
  have c20b1:(a0_0 != 7)=true:=bne_iff_ne.mpr c20
  by_cases c21:a0_0=9
  rotate_left
  ·rw [if_neg c21] at H
   have c21b0:(a0_0 == 9)=false:=beq_eq_false_iff_ne.mpr c21
   have c21b1:(a0_0 != 9)=true:=bne_iff_ne.mpr c21
   have H':=aK_ H
   clear H
   go_wp2
   repeat (go_quiet (fail);try go_wp2)
   go_meet
   case rel=>exact ⟨_,((a0_0 == 10)),aS2_,H',⟨by first|omega|exact Nat.le_refl _⟩,⟨aB_ BK714.out⟩,⟨aI_ HB.out GE714.out⟩⟩
  rw [if_pos c21] at H
  have c21b0:(a0_0 == 9)=true:=beq_iff_eq.mpr c21
  have c21b1:(a0_0 != 9)=false:=bne_eq_false_iff_eq.mpr c21
  clear c21
  have H':=aK_ H
  clear H
  go_wp2
  repeat (go_quiet (fail);try go_wp2)
  go_meet
  case rel=>exact ⟨_,((a0_0 == 9)),aS2_,H',⟨by first|omega|exact Nat.le_refl _⟩,⟨aB_ BK714.out⟩,⟨aI_ HB.out GE714.out⟩⟩
 clear HC15
 try clear c1
 try clear c2
 try clear p2
 try clear c3
 try clear c3b0
 try clear c3b1
 try clear c5
 try clear c6
 try clear c6b0
 try clear c6b1
 try clear p6
 try clear c9
 try clear c9b0
 try clear c9b1
 try clear c12
 try clear c12b0
 try clear c12b1
 try clear c18
 try clear c18b0
 try clear c18b1
 try clear c19
 try clear c19b0
 try clear c19b1
 try clear c20
 try clear c20b0
 try clear c20b1
 try clear c21
 try clear c21b0
 try clear c21b1
 try clear hcz11_0
 try clear hcz11_1
 try clear hcz11_2
 try clear hcz11_3
 try clear hcz11_4
 try clear hcz11_5
 try clear hcz14_0
 try clear hcz14_1
 try clear hcz14_2
 try clear hcz14_3
 try clear hcz14_4
 try clear hcz14_5
 try clear hcz17_0
 try clear hcz17_1
 try clear hcz17_2
 try clear hcz17_3
 try clear hcz17_4
 try clear hcz17_5
 try clear hcz5_0
 try clear hcz5_1
 try clear hcz5_2
 try clear hcz5_3
 try clear hcz5_4
 try clear hcz5_5
 try clear hcz8_0
 try clear hcz8_1
 try clear hcz8_2
 try clear hcz8_3
 try clear hcz8_4
 try clear hcz8_5
 try clear hfz11_0
 try clear hfz11_1
 try clear hfz11_2
 try clear hfz11_3
 try clear hfz11_4
 try clear hfz11_5
 try clear hfz14_0
 try clear hfz14_1
 try clear hfz14_2
 try clear hfz14_3
 try clear hfz14_4
 try clear hfz14_5
 try clear hfz17_0
 try clear hfz17_1
 try clear hfz17_2
 try clear hfz17_3
 try clear hfz17_4
 try clear hfz17_5
 try clear hfz5_0
 try clear hfz5_1
 try clear hfz5_2
 try clear hfz5_3
 try clear hfz5_4
 try clear hfz5_5
 try clear hfz8_0
 try clear hfz8_1
 try clear hfz8_2
 try clear hfz8_3
 try clear hfz8_4
 try clear hfz8_5
 obtain ⟨kq,x23_14,rfl,HA,HJ14,BK714,HB⟩:=hcut
 cases kq with
 |zero=>exact absurd HA.out (by simp [zAJ.j0])
 |succ kj14=>?_
 have H:=HA.out
 clear HA
 simp only [zAJ.j0] at H
 by_cases c22:x23_14=true
 ·subst c22
  have H1:((zAd.f kj14 l1).bind fun t715=>(some t715))=some r:=by rw [if_pos rfl] at H;exact H
  clear H
  have H:=H1
  clear H1
  replace H:=Option.bind_eq_some_iff.mp H
  obtain ⟨t715,A230,H⟩:=H
  replace H:(some t715)=some r:=H
  have A23:=aK_ A230
  clear A230
  obtain rfl:=Option.some.inj H
  go_wp2_with (first|(go_at_call 73;(with_reducible refine (zAd.calls kj14 _ _ l1 t715 _ ?side1 ?side2 A23.out).mono ?_);(case side1=>repeat (first|exact (Kd.C_below HR1.out HB.out)|(with_reducible refine Kd.C_alloc ?_ _)|(with_reducible refine Kd.C_drewN ?_ _)|(with_reducible refine Kd.C_drew ?_)));(case side2=>exact HC1.out);rintro e w' ⟨rfl,⟨nd,rfl⟩⟩;(try first|exact ⟨rfl,_,World.drewN_drewN _ _ _⟩|exact ⟨rfl,_,Eq.trans (World.drewN_drewN _ _ _) (congrArg (World.drewN _) (Nat.add_assoc _ _ _))⟩)))
  repeat (go_quiet (first|(go_at_call 73;(with_reducible refine (zAd.calls kj14 _ _ l1 t715 _ ?side1 ?side2 A23.out).mono ?_);(case side1=>repeat (first|exact (Kd.C_below HR1.out HB.out)|(with_reducible refine Kd.C_alloc ?_ _)|(with_reducible refine Kd.C_drewN ?_ _)|(with_reducible refine Kd.C_drew ?_)));(case side2=>exact HC1.out);rintro e w' ⟨rfl,⟨nd,rfl⟩⟩;(try first|exact ⟨rfl,_,World.drewN_drewN _ _ _⟩|exact ⟨rfl,_,Eq.trans (World.drewN_drewN _ _ _) (congrArg (World.drewN _) (Nat.add_assoc _ _ _))⟩)));try go_wp2_with (first|(go_at_call 73;(with_reducible refine (zAd.calls kj14 _ _ l1 t715 _ ?side1 ?side2 A23.out).mono ?_);(case side1=>repeat (first|exact (Kd.C_below HR1.out HB.out)|(with_reducible refine Kd.C_alloc ?_ _)|(with_reducible refine Kd.C_drewN ?_ _)|(with_reducible refine Kd.C_drew ?_)));(case side2=>exact HC1.out);rintro e w' ⟨rfl,⟨nd,rfl⟩⟩;(try first|exact ⟨rfl,_,World.drewN_drewN _ _ _⟩|exact ⟨rfl,_,Eq.trans (World.drewN_drewN _ _ _) (congrArg (World.drewN _) (Nat.add_assoc _ _ _))⟩))))
  go_ret
  exact ⟨by first|rfl|(simp [zAE,zAF] <;> rfl)|(simp [*,zAE,zAF] <;> rfl),aI_ HB.out GE714.out⟩
 replace c22:=Bool.eq_false_iff.mpr c22
 subst c22
 have H1:(if a0_0=8 then (if 0<(l1.length:Int) then (if 1<(l1.length:Int) then ((octroiref08_product.f (rd l1 0) (rd l1 1)).bind fun t718=>(some t718)) else (none)) else (none)) else (if a0_0=11 then (zAJ.j1 kj14 l1 a0_0 (a0_0 == 11)) else (zAJ.j1 kj14 l1 a0_0 (a0_0 == 12))))=some r:=by rw [if_neg (show ¬ (false=true) by decide)] at H;exact H
 clear H
 have H:=H1
 clear H1
 by_cases c24:a0_0=8
 ·rw [if_pos c24] at H
  have c24b0:(a0_0 == 8)=true:=beq_iff_eq.mpr c24
  have c24b1:(a0_0 != 8)=false:=bne_eq_false_iff_eq.mpr c24
  clear c24
  have c25:=yes_ H
  rw [if_pos c25] at H
  have c25b0:decide (0<(l1.length:Int))=true:=decide_eq_true c25
  have c25b1:decide (0<l1.length)=true:=decide_eq_true (by omega)
  clear c25
  have c26:=yes_ H
  rw [if_pos c26] at H
  have c26b0:decide (1<(l1.length:Int))=true:=decide_eq_true c26
  have c26b1:decide (1<l1.length)=true:=decide_eq_true (by omega)
  clear c26
  replace H:=Option.bind_eq_some_iff.mp H
  obtain ⟨t718,A270,H⟩:=H
  replace H:(some t718)=some r:=H
  have A27:=aK_ A270
  clear A270
  obtain rfl:=Option.some.inj H
  have p716:0≤(0:Int):=(by omega)
  have q716:0<(l1.length:Int):=aD_
  obtain ⟨ad716,e716,hx716_0⟩:=Kd.at_int HR1.out 0 p716 q716
  cases e716
  have qi716:(0<l1.length)=True:=eq_true (by omega)
  (try rw [show ((0:Int)).toNat=0 from rfl] at hx716_0)
  (try rw [Addr.add_zero'] at hx716_0)
  replace hx716_0:=(HB.out.cell (World.block_lt_of_cell? w _ hx716_0)).trans hx716_0
  replace p716:=eq_true p716
  replace q716:=eq_true q716
  have p717:0≤(1:Int):=(by omega)
  have q717:1<(l1.length:Int):=aD_
  obtain ⟨ad717,e717,hx717_0⟩:=Kd.at_int HR1.out 1 p717 q717
  obtain rfl:ad716=ad717:=(by injection e717)
  (try simp only [show (1:Int).toNat=1 from rfl,Nat.reduceMul,Nat.reduceEqDiff,Go.Addr.add,↓reduceIte] at hx717_0)
  have qi717:(1<l1.length)=True:=eq_true (by omega)
  (try rw [show ((1:Int)).toNat=1 from rfl] at hx717_0)
  replace hx717_0:=(HB.out.cell (World.block_lt_of_cell? w _ hx717_0)).trans hx717_0
  replace p717:=eq_true p717
  replace q717:=eq_true q717
  go_wp2_with (first|(go_at_call 74;(with_reducible refine (octroiref08_product.calls (rd l1 0) (rd l1 1) t718 _ A27.out).mono ?_);rintro e w' ⟨rfl,⟨nd,rfl⟩⟩;(try first|exact ⟨rfl,_,World.drewN_drewN _ _ _⟩|exact ⟨rfl,_,Eq.trans (World.drewN_drewN _ _ _) (congrArg (World.drewN _) (Nat.add_assoc _ _ _))⟩)))
  repeat (go_quiet (first|(go_at_call 74;(with_reducible refine (octroiref08_product.calls (rd l1 0) (rd l1 1) t718 _ A27.out).mono ?_);rintro e w' ⟨rfl,⟨nd,rfl⟩⟩;(try first|exact ⟨rfl,_,World.drewN_drewN _ _ _⟩|exact ⟨rfl,_,Eq.trans (World.drewN_drewN _ _ _) (congrArg (World.drewN _) (Nat.add_assoc _ _ _))⟩)));try go_wp2_with (first|(go_at_call 74;(with_reducible refine (octroiref08_product.calls (rd l1 0) (rd l1 1) t718 _ A27.out).mono ?_);rintro e w' ⟨rfl,⟨nd,rfl⟩⟩;(try first|exact ⟨rfl,_,World.drewN_drewN _ _ _⟩|exact ⟨rfl,_,Eq.trans (World.drewN_drewN _ _ _) (congrArg (World.drewN _) (Nat.add_assoc _ _ _))⟩))))
  go_ret
  exact ⟨by first|rfl|(simp [zAE,zAF] <;> rfl)|(simp [*,zAE,zAF] <;> rfl),aI_ HB.out GE714.out⟩
 rw [if_neg c24] at H
 have c24b0:(a0_0 == 8)=false:=beq_eq_false_iff_ne.mpr c24
 have c24b1:(a0_0 != 8)=true:=bne_iff_ne.mpr c24
 have HC28:=aK_ H
 clear H
 go_upto_if 40 with (fail)
 repeat (go_quiet (fail);go_upto_if 40 with (fail))
 go_cut [40] (fun v40 wc=>∃ (kq:Nat) (x40_27:Bool),v40 = .bool x40_27∧zAa (zAJ.j1 kq l1 a0_0 x40_27=some r)∧zAa (kq≤kj14)∧zAa (wc.heap[gb714]?=some (.cells #[.int .i64 a0_0,.int .i64 a0_1,.int .i64 a0_2,.int .i64 a0_3,(.slice A0_4 l0_4.length c0_4),.int .i64 a0_5] 33 (0,0)))∧zAa (Below w.heap.size w wc))
 case first =>
  have H:=HC28.out
  clear HC28
  by_cases c29:a0_0=11
  rotate_left
  ·rw [if_neg c29] at H
   have c29b0:(a0_0 == 11)=false:=beq_eq_false_iff_ne.mpr c29
   have c29b1:(a0_0 != 11)=true:=bne_iff_ne.mpr c29
   (first|rw [c29b0]|(simp only [i64_w,i32_w];rw [c29b0])|skip)
   have H':=aK_ H
   clear H
   go_wp2
   repeat (go_quiet (fail);try go_wp2)
   go_meet
   case rel=>exact ⟨_,((a0_0 == 12)),aS2_,H',⟨by have:=HJ14.out;first|omega|exact Nat.le_refl _⟩,⟨aB_ BK714.out⟩,⟨aI_ HB.out GE714.out⟩⟩
  rw [if_pos c29] at H
  have c29b0:(a0_0 == 11)=true:=beq_iff_eq.mpr c29
  have c29b1:(a0_0 != 11)=false:=bne_eq_false_iff_eq.mpr c29
  clear c29
  (first|rw [c29b0]|(simp only [i64_w,i32_w];rw [c29b0])|skip)
  have H':=aK_ H
  clear H
  go_wp2
  repeat (go_quiet (fail);try go_wp2)
  go_meet
  case rel=>exact ⟨_,((a0_0 == 11)),aS2_,H',⟨by have:=HJ14.out;first|omega|exact Nat.le_refl _⟩,⟨aB_ BK714.out⟩,⟨aI_ HB.out GE714.out⟩⟩
 clear HC28
 try clear c1
 try clear c2
 try clear p2
 try clear c3
 try clear c3b0
 try clear c3b1
 try clear c5
 try clear c6
 try clear c6b0
 try clear c6b1
 try clear p6
 try clear p7
 try clear q7
 try clear hx7
 try clear qi7
 try clear c9
 try clear c9b0
 try clear c9b1
 try clear c12
 try clear c12b0
 try clear c12b1
 try clear c18
 try clear c18b0
 try clear c18b1
 try clear c19
 try clear c19b0
 try clear c19b1
 try clear c20
 try clear c20b0
 try clear c20b1
 try clear c21
 try clear c21b0
 try clear c21b1
 try clear c22
 try clear c24
 try clear c24b0
 try clear c24b1
 try clear c25
 try clear c25b0
 try clear c25b1
 try clear c26
 try clear c26b0
 try clear c26b1
 try clear c29
 try clear c29b0
 try clear c29b1
 try clear hcz11_0
 try clear hcz11_1
 try clear hcz11_2
 try clear hcz11_3
 try clear hcz11_4
 try clear hcz11_5
 try clear hcz14_0
 try clear hcz14_1
 try clear hcz14_2
 try clear hcz14_3
 try clear hcz14_4
 try clear hcz14_5
 try clear hcz17_0
 try clear hcz17_1
 try clear hcz17_2
 try clear hcz17_3
 try clear hcz17_4
 try clear hcz17_5
 try clear hcz5_0
 try clear hcz5_1
 try clear hcz5_2
 try clear hcz5_3
 try clear hcz5_4
 try clear hcz5_5
 try clear hcz8_0
 try clear hcz8_1
 try clear hcz8_2
 try clear hcz8_3
 try clear hcz8_4
 try clear hcz8_5
 try clear hfz11_0
 try clear hfz11_1
 try clear hfz11_2
 try clear hfz11_3
 try clear hfz11_4
 try clear hfz11_5
 try clear hfz14_0
 try clear hfz14_1
 try clear hfz14_2
 try clear hfz14_3
 try clear hfz14_4
 try clear hfz14_5
 try clear hfz17_0
 try clear hfz17_1
 try clear hfz17_2
 try clear hfz17_3
 try clear hfz17_4
 try clear hfz17_5
 try clear hfz5_0
 try clear hfz5_1
 try clear hfz5_2
 try clear hfz5_3
 try clear hfz5_4
 try clear hfz5_5
 try clear hfz8_0
 try clear hfz8_1
 try clear hfz8_2
 try clear hfz8_3
 try clear hfz8_4
 try clear hfz8_5
 try clear hx716_0
 try clear hx717_0
 try clear p2
 try clear p6
 try clear p716
 try clear p717
 try clear q716
 try clear q717
 obtain ⟨kq,x40_27,rfl,HA,HJ27,BK714,HB⟩:=hcut
 cases kq with
 |zero=>exact absurd HA.out (by simp [zAJ.j1])
 |succ kj27=>?_
 have H:=HA.out
 clear HA
 simp only [zAJ.j1] at H
 by_cases c30:x40_27=true
 ·subst c30
  have H1:(if 0<(l1.length:Int) then ((zAV.f (rd l1 0)).bind fun t720=>(if t720=true then (some (rd l1 0)) else (some (-1)))) else (none))=some r:=by rw [if_pos rfl] at H;exact H
  clear H
  have H:=H1
  clear H1
  have c31:=yes_ H
  rw [if_pos c31] at H
  have c31b0:decide (0<(l1.length:Int))=true:=decide_eq_true c31
  have c31b1:decide (0<l1.length)=true:=decide_eq_true (by omega)
  clear c31
  replace H:=Option.bind_eq_some_iff.mp H
  obtain ⟨t720,A320,H⟩:=H
  replace H:(if t720=true then (some (rd l1 0)) else (some (-1)))=some r:=H
  have A32:=aK_ A320
  clear A320
  by_cases c33:t720=true
  rotate_left
  ·replace c33:=Bool.eq_false_iff.mpr c33
   subst c33
   have H1:(some (-1))=some r:=by rw [if_neg (show ¬ (false=true) by decide)] at H;exact H
   clear H
   have H:=H1
   clear H1
   obtain rfl:=Option.some.inj H
   have p719:0≤(0:Int):=(by omega)
   have q719:0<(l1.length:Int):=aD_
   obtain ⟨ad719,e719,hx719_0⟩:=Kd.at_int HR1.out 0 p719 q719
   cases e719
   have qi719:(0<l1.length)=True:=eq_true (by omega)
   (try rw [show ((0:Int)).toNat=0 from rfl] at hx719_0)
   (try rw [Addr.add_zero'] at hx719_0)
   replace hx719_0:=(HB.out.cell (World.block_lt_of_cell? w _ hx719_0)).trans hx719_0
   replace p719:=eq_true p719
   replace q719:=eq_true q719
   go_wp2_with (first|(go_at_call 75;(with_reducible refine (zAV.calls (rd l1 0) false _ A32.out).mono ?_);rintro e w' ⟨rfl,⟨nd,rfl⟩⟩;(try first|exact ⟨rfl,_,World.drewN_drewN _ _ _⟩|exact ⟨rfl,_,Eq.trans (World.drewN_drewN _ _ _) (congrArg (World.drewN _) (Nat.add_assoc _ _ _))⟩)))
   repeat (go_quiet (first|(go_at_call 75;(with_reducible refine (zAV.calls (rd l1 0) false _ A32.out).mono ?_);rintro e w' ⟨rfl,⟨nd,rfl⟩⟩;(try first|exact ⟨rfl,_,World.drewN_drewN _ _ _⟩|exact ⟨rfl,_,Eq.trans (World.drewN_drewN _ _ _) (congrArg (World.drewN _) (Nat.add_assoc _ _ _))⟩)));try go_wp2_with (first|(go_at_call 75;(with_reducible refine (zAV.calls (rd l1 0) false _ A32.out).mono ?_);rintro e w' ⟨rfl,⟨nd,rfl⟩⟩;(try first|exact ⟨rfl,_,World.drewN_drewN _ _ _⟩|exact ⟨rfl,_,Eq.trans (World.drewN_drewN _ _ _) (congrArg (World.drewN _) (Nat.add_assoc _ _ _))⟩))))
   go_ret
   exact ⟨by first|rfl|(simp [zAE,zAF] <;> rfl)|(simp [*,zAE,zAF] <;> rfl),aI_ HB.out GE714.out⟩
  subst c33
  have H1:(some (rd l1 0))=some r:=by rw [if_pos rfl] at H;exact H
  clear H
  have H:=H1
  clear H1
  obtain rfl:=Option.some.inj H
  have p719:0≤(0:Int):=(by omega)
  have q719:0<(l1.length:Int):=aD_
  obtain ⟨ad719,e719,hx719_0⟩:=Kd.at_int HR1.out 0 p719 q719
  cases e719
  have qi719:(0<l1.length)=True:=eq_true (by omega)
  (try rw [show ((0:Int)).toNat=0 from rfl] at hx719_0)
  (try rw [Addr.add_zero'] at hx719_0)
  replace hx719_0:=(HB.out.cell (World.block_lt_of_cell? w _ hx719_0)).trans hx719_0
  replace p719:=eq_true p719
  replace q719:=eq_true q719
  go_wp2_with (first|(go_at_call 75;(with_reducible refine (zAV.calls (rd l1 0) true _ A32.out).mono ?_);rintro e w' ⟨rfl,⟨nd,rfl⟩⟩;(try first|exact ⟨rfl,_,World.drewN_drewN _ _ _⟩|exact ⟨rfl,_,Eq.trans (World.drewN_drewN _ _ _) (congrArg (World.drewN _) (Nat.add_assoc _ _ _))⟩);have p721:0≤(0:Int):=(by omega);have q721:0<(l1.length:Int):=aD_;obtain ⟨ad721,e721,hx721_0⟩:=Kd.at_int HR1.out 0 p721 q721;obtain rfl:ad719=ad721:=(by injection e721);have qi721:(0<l1.length)=True:=eq_true (by omega);(try rw [show ((0:Int)).toNat=0 from rfl] at hx721_0);(try rw [Addr.add_zero'] at hx721_0);replace hx721_0:=(HB.out.cell (World.block_lt_of_cell? w _ hx721_0)).trans hx721_0;replace p721:=eq_true p721;replace q721:=eq_true q721))
  repeat (go_quiet (first|(go_at_call 75;(with_reducible refine (zAV.calls (rd l1 0) true _ A32.out).mono ?_);rintro e w' ⟨rfl,⟨nd,rfl⟩⟩;(try first|exact ⟨rfl,_,World.drewN_drewN _ _ _⟩|exact ⟨rfl,_,Eq.trans (World.drewN_drewN _ _ _) (congrArg (World.drewN _) (Nat.add_assoc _ _ _))⟩);have p721:0≤(0:Int):=(by omega);have q721:0<(l1.length:Int):=aD_;obtain ⟨ad721,e721,hx721_0⟩:=Kd.at_int HR1.out 0 p721 q721;obtain rfl:ad719=ad721:=(by injection e721);have qi721:(0<l1.length)=True:=eq_true (by omega);(try rw [show ((0:Int)).toNat=0 from rfl] at hx721_0);(try rw [Addr.add_zero'] at hx721_0);replace hx721_0:=(HB.out.cell (World.block_lt_of_cell? w _ hx721_0)).trans hx721_0;replace p721:=eq_true p721;replace q721:=eq_true q721));try go_wp2_with (first|(go_at_call 75;(with_reducible refine (zAV.calls (rd l1 0) true _ A32.out).mono ?_);rintro e w' ⟨rfl,⟨nd,rfl⟩⟩;(try first|exact ⟨rfl,_,World.drewN_drewN _ _ _⟩|exact ⟨rfl,_,Eq.trans (World.drewN_drewN _ _ _) (congrArg (World.drewN _) (Nat.add_assoc _ _ _))⟩);have p721:0≤(0:Int):=(by omega);have q721:0<(l1.length:Int):=aD_;obtain ⟨ad721,e721,hx721_0⟩:=Kd.at_int HR1.out 0 p721 q721;obtain rfl:ad719=ad721:=(by injection e721);have qi721:(0<l1.length)=True:=eq_true (by omega);(try rw [show ((0:Int)).toNat=0 from rfl] at hx721_0);(try rw [Addr.add_zero'] at hx721_0);replace hx721_0:=(HB.out.cell (World.block_lt_of_cell? w _ hx721_0)).trans hx721_0;replace p721:=eq_true p721;replace q721:=eq_true q721)))
  go_ret
  exact ⟨by first|rfl|(simp [zAE,zAF] <;> rfl)|(simp [*,zAE,zAF] <;> rfl),aI_ HB.out GE714.out⟩
 replace c30:=Bool.eq_false_iff.mpr c30
 subst c30
 have H1:(if a0_0=13 then (zAJ.j2 kj27 l1 a0_0 (a0_0 == 13)) else (zAJ.j2 kj27 l1 a0_0 (a0_0 == 14)))=some r:=by rw [if_neg (show ¬ (false=true) by decide)] at H;exact H
 clear H
 have H:=H1
 clear H1
 have HC34:=aK_ H
 clear H
 go_upto_if 50 with (fail)
 repeat (go_quiet (fail);go_upto_if 50 with (fail))
 go_cut [50] (fun v50 wc=>∃ (kq:Nat) (x50_33:Bool),v50 = .bool x50_33∧zAa (zAJ.j2 kq l1 a0_0 x50_33=some r)∧zAa (kq≤kj27)∧zAa (wc.heap[gb714]?=some (.cells #[.int .i64 a0_0,.int .i64 a0_1,.int .i64 a0_2,.int .i64 a0_3,(.slice A0_4 l0_4.length c0_4),.int .i64 a0_5] 33 (0,0)))∧zAa (Below w.heap.size w wc))
 case first =>
  have H:=HC34.out
  clear HC34
  by_cases c35:a0_0=13
  rotate_left
  ·rw [if_neg c35] at H
   have c35b0:(a0_0 == 13)=false:=beq_eq_false_iff_ne.mpr c35
   have c35b1:(a0_0 != 13)=true:=bne_iff_ne.mpr c35
   (first|rw [c35b0]|(simp only [i64_w,i32_w];rw [c35b0])|skip)
   have H':=aK_ H
   clear H
   go_wp2
   repeat (go_quiet (fail);try go_wp2)
   go_meet
   case rel=>exact ⟨_,((a0_0 == 14)),aS2_,H',⟨by have:=HJ14.out;have:=HJ27.out;first|omega|exact Nat.le_refl _⟩,⟨aB_ BK714.out⟩,⟨aI_ HB.out GE714.out⟩⟩
  rw [if_pos c35] at H
  have c35b0:(a0_0 == 13)=true:=beq_iff_eq.mpr c35
  have c35b1:(a0_0 != 13)=false:=bne_eq_false_iff_eq.mpr c35
  clear c35
  (first|rw [c35b0]|(simp only [i64_w,i32_w];rw [c35b0])|skip)
  have H':=aK_ H
  clear H
  go_wp2
  repeat (go_quiet (fail);try go_wp2)
  go_meet
  case rel=>exact ⟨_,((a0_0 == 13)),aS2_,H',⟨by have:=HJ14.out;have:=HJ27.out;first|omega|exact Nat.le_refl _⟩,⟨aB_ BK714.out⟩,⟨aI_ HB.out GE714.out⟩⟩
 clear HC34
 try clear c1
 try clear c2
 try clear p2
 try clear c3
 try clear c3b0
 try clear c3b1
 try clear c5
 try clear c6
 try clear c6b0
 try clear c6b1
 try clear p6
 try clear p7
 try clear q7
 try clear hx7
 try clear qi7
 try clear c9
 try clear c9b0
 try clear c9b1
 try clear c12
 try clear c12b0
 try clear c12b1
 try clear c18
 try clear c18b0
 try clear c18b1
 try clear c19
 try clear c19b0
 try clear c19b1
 try clear c20
 try clear c20b0
 try clear c20b1
 try clear c21
 try clear c21b0
 try clear c21b1
 try clear c22
 try clear c24
 try clear c24b0
 try clear c24b1
 try clear c25
 try clear c25b0
 try clear c25b1
 try clear c26
 try clear c26b0
 try clear c26b1
 try clear c29
 try clear c29b0
 try clear c29b1
 try clear c30
 try clear c31
 try clear c31b0
 try clear c31b1
 try clear c33
 try clear c35
 try clear c35b0
 try clear c35b1
 try clear hcz11_0
 try clear hcz11_1
 try clear hcz11_2
 try clear hcz11_3
 try clear hcz11_4
 try clear hcz11_5
 try clear hcz14_0
 try clear hcz14_1
 try clear hcz14_2
 try clear hcz14_3
 try clear hcz14_4
 try clear hcz14_5
 try clear hcz17_0
 try clear hcz17_1
 try clear hcz17_2
 try clear hcz17_3
 try clear hcz17_4
 try clear hcz17_5
 try clear hcz5_0
 try clear hcz5_1
 try clear hcz5_2
 try clear hcz5_3
 try clear hcz5_4
 try clear hcz5_5
 try clear hcz8_0
 try clear hcz8_1
 try clear hcz8_2
 try clear hcz8_3
 try clear hcz8_4
 try clear hcz8_5
 try clear hfz11_0
 try clear hfz11_1
 try clear hfz11_2
 try clear hfz11_3
 try clear hfz11_4
 try clear hfz11_5
 try clear hfz14_0
 try clear hfz14_1
 try clear hfz14_2
 try clear hfz14_3
 try clear hfz14_4
 try clear hfz14_5
 try clear hfz17_0
 try clear hfz17_1
 try clear hfz17_2
 try clear hfz17_3
 try clear hfz17_4
 try clear hfz17_5
 try clear hfz5_0
 try clear hfz5_1
 try clear hfz5_2
 try clear hfz5_3
 try clear hfz5_4
 try clear hfz5_5
 try clear hfz8_0
 try clear hfz8_1
 try clear hfz8_2
 try clear hfz8_3
 try clear hfz8_4
 try clear hfz8_5
 try clear hx716_0
 try clear hx717_0
 try clear hx719_0
 try clear hx721_0
 try clear p2
 try clear p6
 try clear p7
 try clear p716
 try clear p717
 try clear p719
 try clear p721
 try clear q7
 try clear q716
 try clear q717
 try clear q719
 try clear q721
 obtain ⟨kq,x50_33,rfl,HA,HJ33,BK714,HB⟩:=hcut
 cases kq with
 |zero=>exact absurd HA.out (by simp [zAJ.j2])
 |succ kj33=>?_
 have H:=HA.out
 clear HA
 simp only [zAJ.j2] at H
 by_cases c36:x50_33=true
 ·subst c36
  have H1:(if 0<(l1.length:Int) then ((zAV.f (rd l1 0)).bind fun t723=>(if t723=true then (some 1) else (some (-1)))) else (none))=some r:=by rw [if_pos rfl] at H;exact H
  clear H
  have H:=H1
  clear H1
  have c37:=yes_ H
  rw [if_pos c37] at H
  have c37b0:decide (0<(l1.length:Int))=true:=decide_eq_true c37
  have c37b1:decide (0<l1.length)=true:=decide_eq_true (by omega)
  clear c37
  replace H:=Option.bind_eq_some_iff.mp H
  obtain ⟨t723,A380,H⟩:=H
  replace H:(if t723=true then (some 1) else (some (-1)))=some r:=H
  have A38:=aK_ A380
  clear A380
  by_cases c39:t723=true
  ·subst c39
   have H1:(some 1)=some r:=by rw [if_pos rfl] at H;exact H
   clear H
   have H:=H1
   clear H1
   obtain rfl:=Option.some.inj H
   have p722:0≤(0:Int):=(by omega)
   have q722:0<(l1.length:Int):=aD_
   obtain ⟨ad722,e722,hx722_0⟩:=Kd.at_int HR1.out 0 p722 q722
   cases e722
   have qi722:(0<l1.length)=True:=eq_true (by omega)
   (try rw [show ((0:Int)).toNat=0 from rfl] at hx722_0)
   (try rw [Addr.add_zero'] at hx722_0)
   replace hx722_0:=(HB.out.cell (World.block_lt_of_cell? w _ hx722_0)).trans hx722_0
   replace p722:=eq_true p722
   replace q722:=eq_true q722
   go_wp2_with (first|(go_at_call 75;(with_reducible refine (zAV.calls (rd l1 0) true _ A38.out).mono ?_);rintro e w' ⟨rfl,⟨nd,rfl⟩⟩;(try first|exact ⟨rfl,_,World.drewN_drewN _ _ _⟩|exact ⟨rfl,_,Eq.trans (World.drewN_drewN _ _ _) (congrArg (World.drewN _) (Nat.add_assoc _ _ _))⟩)))
   repeat (go_quiet (first|(go_at_call 75;(with_reducible refine (zAV.calls (rd l1 0) true _ A38.out).mono ?_);rintro e w' ⟨rfl,⟨nd,rfl⟩⟩;(try first|exact ⟨rfl,_,World.drewN_drewN _ _ _⟩|exact ⟨rfl,_,Eq.trans (World.drewN_drewN _ _ _) (congrArg (World.drewN _) (Nat.add_assoc _ _ _))⟩)));try go_wp2_with (first|(go_at_call 75;(with_reducible refine (zAV.calls (rd l1 0) true _ A38.out).mono ?_);rintro e w' ⟨rfl,⟨nd,rfl⟩⟩;(try first|exact ⟨rfl,_,World.drewN_drewN _ _ _⟩|exact ⟨rfl,_,Eq.trans (World.drewN_drewN _ _ _) (congrArg (World.drewN _) (Nat.add_assoc _ _ _))⟩))))
   go_ret
   exact ⟨by first|rfl|(simp [zAE,zAF] <;> rfl)|(simp [*,zAE,zAF] <;> rfl),aI_ HB.out GE714.out⟩
  replace c39:=Bool.eq_false_iff.mpr c39
  subst c39
  have H1:(some (-1))=some r:=by rw [if_neg (show ¬ (false=true) by decide)] at H;exact H
  clear H
  have H:=H1
  clear H1
  obtain rfl:=Option.some.inj H
  have p722:0≤(0:Int):=(by omega)
  have q722:0<(l1.length:Int):=aD_
  obtain ⟨ad722,e722,hx722_0⟩:=Kd.at_int HR1.out 0 p722 q722
  cases e722
  have qi722:(0<l1.length)=True:=eq_true (by omega)
  (try rw [show ((0:Int)).toNat=0 from rfl] at hx722_0)
  (try rw [Addr.add_zero'] at hx722_0)
  replace hx722_0:=(HB.out.cell (World.block_lt_of_cell? w _ hx722_0)).trans hx722_0
  replace p722:=eq_true p722
  replace q722:=eq_true q722
  go_wp2_with (first|(go_at_call 75;(with_reducible refine (zAV.calls (rd l1 0) false _ A38.out).mono ?_);rintro e w' ⟨rfl,⟨nd,rfl⟩⟩;(try first|exact ⟨rfl,_,World.drewN_drewN _ _ _⟩|exact ⟨rfl,_,Eq.trans (World.drewN_drewN _ _ _) (congrArg (World.drewN _) (Nat.add_assoc _ _ _))⟩)))
  repeat (go_quiet (first|(go_at_call 75;(with_reducible refine (zAV.calls (rd l1 0) false _ A38.out).mono ?_);rintro e w' ⟨rfl,⟨nd,rfl⟩⟩;(try first|exact ⟨rfl,_,World.drewN_drewN _ _ _⟩|exact ⟨rfl,_,Eq.trans (World.drewN_drewN _ _ _) (congrArg (World.drewN _) (Nat.add_assoc _ _ _))⟩)));try go_wp2_with (first|(go_at_call 75;(with_reducible refine (zAV.calls (rd l1 0) false _ A38.out).mono ?_);rintro e w' ⟨rfl,⟨nd,rfl⟩⟩;(try first|exact ⟨rfl,_,World.drewN_drewN _ _ _⟩|exact ⟨rfl,_,Eq.trans (World.drewN_drewN _ _ _) (congrArg (World.drewN _) (Nat.add_assoc _ _ _))⟩))))
  go_ret
  exact ⟨by first|rfl|(simp [zAE,zAF] <;> rfl)|(simp [*,zAE,zAF] <;> rfl),aI_ HB.out GE714.out⟩
 replace c36:=Bool.eq_false_iff.mpr c36
 subst c36
 have H1:(if a0_0=15 then (if 0<(l1.length:Int) then (if (rd l1 0)=1 then (some (rd l1 0)) else (some (-1))) else (none)) else (if a0_0=16 then (if 0<(l1.length:Int) then ((zAV.f (rd l1 0)).bind fun t727=>(if t727=true then (if 1≤(l1.length:Int) then ((zAd.f kj33 (l1.drop 1)).bind fun t729=>(some t729)) else (none)) else (some (-1)))) else (none)) else (some (-1))))=some r:=by rw [if_neg (show ¬ (false=true) by decide)] at H;exact H
 clear H
 have H:=H1
 clear H1
 by_cases c40:a0_0=15
 ·rw [if_pos c40] at H
  have c40b0:(a0_0 == 15)=true:=beq_iff_eq.mpr c40
  have c40b1:(a0_0 != 15)=false:=bne_eq_false_iff_eq.mpr c40
  clear c40
  have c41:=yes_ H
  rw [if_pos c41] at H
  have c41b0:decide (0<(l1.length:Int))=true:=decide_eq_true c41
  have c41b1:decide (0<l1.length)=true:=decide_eq_true (by omega)
  clear c41
  by_cases c42:(rd l1 0)=1
  rotate_left
  ·rw [if_neg c42] at H
   have c42b0:((rd l1 0) == 1)=false:=beq_eq_false_iff_ne.mpr c42
   have c42b1:((rd l1 0) != 1)=true:=bne_iff_ne.mpr c42
   obtain rfl:=Option.some.inj H
   have p724:0≤(0:Int):=(by omega)
   have q724:0<(l1.length:Int):=aD_
   obtain ⟨ad724,e724,hx724_0⟩:=Kd.at_int HR1.out 0 p724 q724
   cases e724
   have qi724:(0<l1.length)=True:=eq_true (by omega)
   (try rw [show ((0:Int)).toNat=0 from rfl] at hx724_0)
   (try rw [Addr.add_zero'] at hx724_0)
   replace hx724_0:=(HB.out.cell (World.block_lt_of_cell? w _ hx724_0)).trans hx724_0
   replace p724:=eq_true p724
   replace q724:=eq_true q724
   go_wp2
   repeat (go_quiet (fail);try go_wp2)
   go_ret
   exact ⟨by first|rfl|(simp [zAE,zAF] <;> rfl)|(simp [*,zAE,zAF] <;> rfl),aI_ HB.out GE714.out⟩
  rw [if_pos c42] at H
  have c42b0:((rd l1 0) == 1)=true:=beq_iff_eq.mpr c42
  have c42b1:((rd l1 0) != 1)=false:=bne_eq_false_iff_eq.mpr c42
  clear c42
  obtain rfl:=Option.some.inj H
  have p724:0≤(0:Int):=(by omega)
  have q724:0<(l1.length:Int):=aD_
  obtain ⟨ad724,e724,hx724_0⟩:=Kd.at_int HR1.out 0 p724 q724
  cases e724
  have qi724:(0<l1.length)=True:=eq_true (by omega)
  (try rw [show ((0:Int)).toNat=0 from rfl] at hx724_0)
  (try rw [Addr.add_zero'] at hx724_0)
  replace hx724_0:=(HB.out.cell (World.block_lt_of_cell? w _ hx724_0)).trans hx724_0
  replace p724:=eq_true p724
  replace q724:=eq_true q724
  have p725:0≤(0:Int):=(by omega)
  have q725:0<(l1.length:Int):=aD_
  obtain ⟨ad725,e725,hx725_0⟩:=Kd.at_int HR1.out 0 p725 q725
  obtain rfl:ad724=ad725:=(by injection e725)
  have qi725:(0<l1.length)=True:=eq_true (by omega)
  (try rw [show ((0:Int)).toNat=0 from rfl] at hx725_0)
  (try rw [Addr.add_zero'] at hx725_0)
  replace hx725_0:=(HB.out.cell (World.block_lt_of_cell? w _ hx725_0)).trans hx725_0
  replace p725:=eq_true p725
  replace q725:=eq_true q725
  go_wp2
  repeat (go_quiet (fail);try go_wp2)
  go_ret
  exact ⟨by first|rfl|(simp [zAE,zAF] <;> rfl)|(simp [*,zAE,zAF] <;> rfl),aI_ HB.out GE714.out⟩
 rw [if_neg c40] at H
 have c40b0:(a0_0 == 15)=false:=beq_eq_false_iff_ne.mpr c40
 have c40b1:(a0_0 != 15)=true:=bne_iff_ne.mpr c40
 by_cases c43:a0_0=16
 rotate_left
 ·rw [if_neg c43] at H
  have c43b0:(a0_0 == 16)=false:=beq_eq_false_iff_ne.mpr c43
  have c43b1:(a0_0 != 16)=true:=bne_iff_ne.mpr c43
  obtain rfl:=Option.some.inj H
  go_wp2
  repeat (go_quiet (fail);try go_wp2)
  go_ret
  exact ⟨by first|rfl|(simp [zAE,zAF] <;> rfl)|(simp [*,zAE,zAF] <;> rfl),aI_ HB.out GE714.out⟩
 rw [if_pos c43] at H
 have c43b0:(a0_0 == 16)=true:=beq_iff_eq.mpr c43
 have c43b1:(a0_0 != 16)=false:=bne_eq_false_iff_eq.mpr c43
 clear c43
 have c44:=yes_ H
 rw [if_pos c44] at H
 have c44b0:decide (0<(l1.length:Int))=true:=decide_eq_true c44
 have c44b1:decide (0<l1.length)=true:=decide_eq_true (by omega)
 clear c44
 replace H:=Option.bind_eq_some_iff.mp H
 obtain ⟨t727,A450,H⟩:=H
 replace H:(if t727=true then (if 1≤(l1.length:Int) then ((zAd.f kj33 (l1.drop 1)).bind fun t729=>(some t729)) else (none)) else (some (-1)))=some r:=H
 have A45:=aK_ A450
 clear A450
 by_cases c46:t727=true
 rotate_left
 ·replace c46:=Bool.eq_false_iff.mpr c46
  subst c46
  have H1:(some (-1))=some r:=by rw [if_neg (show ¬ (false=true) by decide)] at H;exact H
  clear H
  have H:=H1
  clear H1
  obtain rfl:=Option.some.inj H
  have p726:0≤(0:Int):=(by omega)
  have q726:0<(l1.length:Int):=aD_
  obtain ⟨ad726,e726,hx726_0⟩:=Kd.at_int HR1.out 0 p726 q726
  cases e726
  have qi726:(0<l1.length)=True:=eq_true (by omega)
  (try rw [show ((0:Int)).toNat=0 from rfl] at hx726_0)
  (try rw [Addr.add_zero'] at hx726_0)
  replace hx726_0:=(HB.out.cell (World.block_lt_of_cell? w _ hx726_0)).trans hx726_0
  replace p726:=eq_true p726
  replace q726:=eq_true q726
  go_wp2_with (first|(go_at_call 75;(with_reducible refine (zAV.calls (rd l1 0) false _ A45.out).mono ?_);rintro e w' ⟨rfl,⟨nd,rfl⟩⟩;(try first|exact ⟨rfl,_,World.drewN_drewN _ _ _⟩|exact ⟨rfl,_,Eq.trans (World.drewN_drewN _ _ _) (congrArg (World.drewN _) (Nat.add_assoc _ _ _))⟩)))
  repeat (go_quiet (first|(go_at_call 75;(with_reducible refine (zAV.calls (rd l1 0) false _ A45.out).mono ?_);rintro e w' ⟨rfl,⟨nd,rfl⟩⟩;(try first|exact ⟨rfl,_,World.drewN_drewN _ _ _⟩|exact ⟨rfl,_,Eq.trans (World.drewN_drewN _ _ _) (congrArg (World.drewN _) (Nat.add_assoc _ _ _))⟩)));try go_wp2_with (first|(go_at_call 75;(with_reducible refine (zAV.calls (rd l1 0) false _ A45.out).mono ?_);rintro e w' ⟨rfl,⟨nd,rfl⟩⟩;(try first|exact ⟨rfl,_,World.drewN_drewN _ _ _⟩|exact ⟨rfl,_,Eq.trans (World.drewN_drewN _ _ _) (congrArg (World.drewN _) (Nat.add_assoc _ _ _))⟩))))
  go_ret
  exact ⟨by first|rfl|(simp [zAE,zAF] <;> rfl)|(simp [*,zAE,zAF] <;> rfl),aI_ HB.out GE714.out⟩
 subst c46
 have H1:(if 1≤(l1.length:Int) then ((zAd.f kj33 (l1.drop 1)).bind fun t729=>(some t729)) else (none))=some r:=by rw [if_pos rfl] at H;exact H
 clear H
 have H:=H1
 clear H1
 have c47:=yes_ H
 rw [if_pos c47] at H
 have c47b0:=eq_true c47
 have c47b1:decide (1≤(l1.length:Int))=true:=decide_eq_true c47
 clear c47
 replace H:=Option.bind_eq_some_iff.mp H
 obtain ⟨t729,A480,H⟩:=H
 replace H:(some t729)=some r:=H
 have A48:=aK_ A480
 clear A480
 obtain rfl:=Option.some.inj H
 have p726:0≤(0:Int):=(by omega)
 have q726:0<(l1.length:Int):=aD_
 obtain ⟨ad726,e726,hx726_0⟩:=Kd.at_int HR1.out 0 p726 q726
 cases e726
 have qi726:(0<l1.length)=True:=eq_true (by omega)
 (try rw [show ((0:Int)).toNat=0 from rfl] at hx726_0)
 (try rw [Addr.add_zero'] at hx726_0)
 replace hx726_0:=(HB.out.cell (World.block_lt_of_cell? w _ hx726_0)).trans hx726_0
 replace p726:=eq_true p726
 replace q726:=eq_true q726
 go_wp2_with (first|(go_at_call 75;(with_reducible refine (zAV.calls (rd l1 0) true _ A45.out).mono ?_);rintro e w' ⟨rfl,⟨nd,rfl⟩⟩;(try first|exact ⟨rfl,_,World.drewN_drewN _ _ _⟩|exact ⟨rfl,_,Eq.trans (World.drewN_drewN _ _ _) (congrArg (World.drewN _) (Nat.add_assoc _ _ _))⟩);obtain ⟨i049,hi049,_,hsz49,_⟩:=info_parts info3;obtain ⟨A49,hcut49,hA49,hC49⟩:=print_drop_of (P:=Tryd.prog) (Value.int .i64) 0 36 3 .i64 Tryd.underlying36 hi049 hsz49 (some ad726) c1 l1 1 (by omega) aD_ HC1.out;have HR728:=aK_ (Kd.C_of_reads (h1:=fun _=>rfl) (hA49 _ (Kd.reads_of_C HR1.out)));have HC728:=aK_ hC49;clear hA49 hC49 hi049 hsz49)|(go_at_call 73;(try rw [show l1.length - 1=(l1.drop 1).length from (List.length_drop ..).symm]);(with_reducible refine (zAd.calls kj33 _ _ (l1.drop 1) t729 _ ?side1 ?side2 A48.out).mono ?_);(case side1=>repeat (first|exact (Kd.C_below HR728.out (aI_ HB.out GE714.out))|(with_reducible refine Kd.C_alloc ?_ _)|(with_reducible refine Kd.C_drewN ?_ _)|(with_reducible refine Kd.C_drew ?_)));(case side2=>exact HC728.out);rintro e w' ⟨rfl,⟨nd,rfl⟩⟩;(try first|exact ⟨rfl,_,World.drewN_drewN _ _ _⟩|exact ⟨rfl,_,Eq.trans (World.drewN_drewN _ _ _) (congrArg (World.drewN _) (Nat.add_assoc _ _ _))⟩)))
 repeat (go_quiet (first|(go_at_call 75;(with_reducible refine (zAV.calls (rd l1 0) true _ A45.out).mono ?_);rintro e w' ⟨rfl,⟨nd,rfl⟩⟩;(try first|exact ⟨rfl,_,World.drewN_drewN _ _ _⟩|exact ⟨rfl,_,Eq.trans (World.drewN_drewN _ _ _) (congrArg (World.drewN _) (Nat.add_assoc _ _ _))⟩);obtain ⟨i049,hi049,_,hsz49,_⟩:=info_parts info3;obtain ⟨A49,hcut49,hA49,hC49⟩:=print_drop_of (P:=Tryd.prog) (Value.int .i64) 0 36 3 .i64 Tryd.underlying36 hi049 hsz49 (some ad726) c1 l1 1 (by omega) aD_ HC1.out;have HR728:=aK_ (Kd.C_of_reads (h1:=fun _=>rfl) (hA49 _ (Kd.reads_of_C HR1.out)));have HC728:=aK_ hC49;clear hA49 hC49 hi049 hsz49)|(go_at_call 73;(try rw [show l1.length - 1=(l1.drop 1).length from (List.length_drop ..).symm]);(with_reducible refine (zAd.calls kj33 _ _ (l1.drop 1) t729 _ ?side1 ?side2 A48.out).mono ?_);(case side1=>repeat (first|exact (Kd.C_below HR728.out (aI_ HB.out GE714.out))|(with_reducible refine Kd.C_alloc ?_ _)|(with_reducible refine Kd.C_drewN ?_ _)|(with_reducible refine Kd.C_drew ?_)));(case side2=>exact HC728.out);rintro e w' ⟨rfl,⟨nd,rfl⟩⟩;(try first|exact ⟨rfl,_,World.drewN_drewN _ _ _⟩|exact ⟨rfl,_,Eq.trans (World.drewN_drewN _ _ _) (congrArg (World.drewN _) (Nat.add_assoc _ _ _))⟩)));try go_wp2_with (first|(go_at_call 75;(with_reducible refine (zAV.calls (rd l1 0) true _ A45.out).mono ?_);rintro e w' ⟨rfl,⟨nd,rfl⟩⟩;(try first|exact ⟨rfl,_,World.drewN_drewN _ _ _⟩|exact ⟨rfl,_,Eq.trans (World.drewN_drewN _ _ _) (congrArg (World.drewN _) (Nat.add_assoc _ _ _))⟩);obtain ⟨i049,hi049,_,hsz49,_⟩:=info_parts info3;obtain ⟨A49,hcut49,hA49,hC49⟩:=print_drop_of (P:=Tryd.prog) (Value.int .i64) 0 36 3 .i64 Tryd.underlying36 hi049 hsz49 (some ad726) c1 l1 1 (by omega) aD_ HC1.out;have HR728:=aK_ (Kd.C_of_reads (h1:=fun _=>rfl) (hA49 _ (Kd.reads_of_C HR1.out)));have HC728:=aK_ hC49;clear hA49 hC49 hi049 hsz49)|(go_at_call 73;(try rw [show l1.length - 1=(l1.drop 1).length from (List.length_drop ..).symm]);(with_reducible refine (zAd.calls kj33 _ _ (l1.drop 1) t729 _ ?side1 ?side2 A48.out).mono ?_);(case side1=>repeat (first|exact (Kd.C_below HR728.out (aI_ HB.out GE714.out))|(with_reducible refine Kd.C_alloc ?_ _)|(with_reducible refine Kd.C_drewN ?_ _)|(with_reducible refine Kd.C_drew ?_)));(case side2=>exact HC728.out);rintro e w' ⟨rfl,⟨nd,rfl⟩⟩;(try first|exact ⟨rfl,_,World.drewN_drewN _ _ _⟩|exact ⟨rfl,_,Eq.trans (World.drewN_drewN _ _ _) (congrArg (World.drewN _) (Nat.add_assoc _ _ _))⟩))))
 go_ret
 exact ⟨by first|rfl|(simp [zAE,zAF] <;> rfl)|(simp [*,zAE,zAF] <;> rfl),aI_ HB.out GE714.out⟩
end Go.Proofs.YthbnigjckjkmnaaDoor.S

namespace Go.Proofs.YthbnigjckjkmnaaDoor.S
open Go.RowKit Go.Proofs.YthbnigjckjkmnaaDoorW.PrintWords Go.Proofs.YthbnigjckjkmnaaDoorW.PrintLast Go.Proofs.YthbnigjckjkmnaaDoorW.PrintMore
attribute [local go_sem] max2_int min2_int max_two min_two max_three min_three max_four min_four
mutual
def zAP.l0:Nat→List Bool→List Int→Int→ByteArray→List (S47)→Int→List (S33)→Option (List Int × Int × Int)
 |0,_,_,_,_,_,_,_=>none
 |k+1,x7,x9,x10,x731000,x731001,x731002,x731003=>if x10<(x731003.length:Int) then (if 0≤x10 then ((zAH.f k ((zAC x731003 x10).f0) ((zAC x731003 x10).f1) ((zAC x731003 x10).f2) ((zAC x731003 x10).f3) ((zAC x731003 x10).f4) ((zAC x731003 x10).f5)).bind fun t739=>(zAP.l1 k x7 x9 x10 ([]:List Int) ([]:List Int) (wrap64 (x10 - 1)) t739 x731000 x731001 x731002 x731003)) else (none)) else (if 0≤(wrap64 ((x9.length:Int) - 1)) then (if (wrap64 ((x9.length:Int) - 1))<(x9.length:Int) then (if (rd x9 (wrap64 ((x9.length:Int) - 1)))=1 then (some (x9,0,0)) else (some (([]:List Int),wrap64 ((x9.length:Int) - 1),80))) else (none)) else (none))
def zAP.l1:Nat→List Bool→List Int→Int→List Int→List Int→Int→Int→ByteArray→List (S47)→Int→List (S33)→Option (List Int × Int × Int)
 |0,_,_,_,_,_,_,_,_,_,_,_=>none
 |k+1,x7,x9,x10,x11,x12,x13,x14,x731000,x731001,x731002,x731003=>if x14 > 0 then (if 0≤x13 then (if x13<(x9.length:Int) then ((some (([rd x9 x13]:List Int):List Int)).bind fun y741=>(if y741.length+x11.length<17592186044416 then (if x12.length<17592186044416 then ((zAX.f k x731000 x731001 x731002 x731003 x13).bind fun t750=>(zAP.l1 k x7 x9 x10 (y741 ++ x11) (x12 ++ [x13]) (wrap64 (t750 - 1)) (wrap64 (x14 - 1)) x731000 x731001 x731002 x731003)) else (none)) else (none))) else (none)) else (none)) else (if 0≤x10 then (if x10<(x731003.length:Int) then ((zAJ.f k ((zAC x731003 x10).f0) ((zAC x731003 x10).f1) ((zAC x731003 x10).f2) ((zAC x731003 x10).f3) ((zAC x731003 x10).f4) ((zAC x731003 x10).f5) x11).bind fun t752=>(if t752=(-1) then (some (([]:List Int),x10,80)) else (if ((zAC x731003 x10).f0)=8 then (if 0<(x12.length:Int) then (if 0≤(rd x12 0) then (if (rd x12 0)<(x7.length:Int) then (if (rdOf false x7 (rd x12 0)=true) then (if x9.length<17592186044416 then (zAP.l0 k x7 (x9 ++ [t752]) (wrap64 (x10+1)) x731000 x731001 x731002 x731003) else (none)) else (if 1<(x12.length:Int) then (if 0≤(rd x12 1) then (if (rd x12 1)<(x7.length:Int) then (if (rdOf false x7 (rd x12 1)=true) then (if x9.length<17592186044416 then (zAP.l0 k x7 (x9 ++ [t752]) (wrap64 (x10+1)) x731000 x731001 x731002 x731003) else (none)) else (some (([]:List Int),x10,81))) else (none)) else (none)) else (none))) else (none)) else (none)) else (none)) else (if x9.length<17592186044416 then (zAP.l0 k x7 (x9 ++ [t752]) (wrap64 (x10+1)) x731000 x731001 x731002 x731003) else (none))))) else (none)) else (none))
end
def zAP.f (k:Nat) (a0_0:ByteArray) (l0_1:List (S47)) (a0_2:Int) (l0_3:List (S33)):Option (List Int × Int × Int):=(zAM.f k a0_0 l0_1 a0_2 l0_3).bind fun bt731=>(if bt731.2=0 then ((zAN.f k a0_0 l0_1 a0_2 l0_3).bind fun bt733=>(zAP.l0 k bt733.1 ([]:List Int) 0 a0_0 l0_1 a0_2 l0_3)) else (some (([]:List Int),bt731.1,bt731.2)))
theorem zAP.mono_l:∀ k,(∀ y0 y1 y2 y3 y4 y5 y6,LeO (zAP.l0 k y0 y1 y2 y3 y4 y5 y6) (zAP.l0 (k+1) y0 y1 y2 y3 y4 y5 y6))∧(∀ y0 y1 y2 y3 y4 y5 y6 y7 y8 y9 y10,LeO (zAP.l1 k y0 y1 y2 y3 y4 y5 y6 y7 y8 y9 y10) (zAP.l1 (k+1) y0 y1 y2 y3 y4 y5 y6 y7 y8 y9 y10))
 |0=>⟨fun _ _ _ _ _ _ _ r h=>by simp [zAP.l0] at h,fun _ _ _ _ _ _ _ _ _ _ _ r h=>by simp [zAP.l1] at h⟩
 |k+1=>by
  obtain ⟨ih0,ih1⟩:=zAP.mono_l k
  refine ⟨?_,?_⟩
  ·intro y0 y1 y2 y3 y4 y5 y6
   unfold zAP.l0
   repeat' first
   |(with_reducible exact ih0 _ _ _ _ _ _ _)
   |(with_reducible exact ih1 _ _ _ _ _ _ _ _ _ _ _)
   |(with_reducible exact zAM.mono _ _ _ _ _)
   |(with_reducible exact zAN.mono _ _ _ _ _)
   |(with_reducible exact zAX.mono _ _ _ _ _ _)
   |(with_reducible exact zAH.mono _ _ _ _ _ _ _)
   |(with_reducible exact zAJ.mono _ _ _ _ _ _ _ _)
   |(with_reducible exact LeO.refl _)
   |(with_reducible exact LeO.none _)
   |(with_reducible refine LeO.ite ?_ ?_)
   |(with_reducible refine LeO.bind ?_ (fun _=>?_))
   |exact ih0 _ _ _ _ _ _ _
   |exact ih1 _ _ _ _ _ _ _ _ _ _ _
   |exact zAM.mono _ _ _ _ _
   |exact zAN.mono _ _ _ _ _
   |exact zAX.mono _ _ _ _ _ _
   |exact zAH.mono _ _ _ _ _ _ _
   |exact zAJ.mono _ _ _ _ _ _ _ _
   |exact LeO.none _
   |refine LeO.ite ?_ ?_
   |refine LeO.bind ?_ (fun _=>?_)
  ·intro y0 y1 y2 y3 y4 y5 y6 y7 y8 y9 y10
   unfold zAP.l1
   repeat' first
   |(with_reducible exact ih0 _ _ _ _ _ _ _)
   |(with_reducible exact ih1 _ _ _ _ _ _ _ _ _ _ _)
   |(with_reducible exact zAM.mono _ _ _ _ _)
   |(with_reducible exact zAN.mono _ _ _ _ _)
   |(with_reducible exact zAX.mono _ _ _ _ _ _)
   |(with_reducible exact zAH.mono _ _ _ _ _ _ _)
   |(with_reducible exact zAJ.mono _ _ _ _ _ _ _ _)
   |(with_reducible exact LeO.refl _)
   |(with_reducible exact LeO.none _)
   |(with_reducible refine LeO.ite ?_ ?_)
   |(with_reducible refine LeO.bind ?_ (fun _=>?_))
   |exact ih0 _ _ _ _ _ _ _
   |exact ih1 _ _ _ _ _ _ _ _ _ _ _
   |exact zAM.mono _ _ _ _ _
   |exact zAN.mono _ _ _ _ _
   |exact zAX.mono _ _ _ _ _ _
   |exact zAH.mono _ _ _ _ _ _ _
   |exact zAJ.mono _ _ _ _ _ _ _ _
   |exact LeO.none _
   |refine LeO.ite ?_ ?_
   |refine LeO.bind ?_ (fun _=>?_)
theorem zAP.mono:∀ a0 a1 a2 a3 k,LeO (zAP.f k a0 a1 a2 a3) (zAP.f (k+1) a0 a1 a2 a3):=by
 intro a0 a1 a2 a3 k
 obtain ⟨ih0,ih1⟩:=zAP.mono_l k
 unfold zAP.f
 repeat' first
   |(with_reducible exact ih0 _ _ _ _ _ _ _)
   |(with_reducible exact ih1 _ _ _ _ _ _ _ _ _ _ _)
   |(with_reducible exact zAM.mono _ _ _ _ _)
   |(with_reducible exact zAN.mono _ _ _ _ _)
   |(with_reducible exact zAX.mono _ _ _ _ _ _)
   |(with_reducible exact zAH.mono _ _ _ _ _ _ _)
   |(with_reducible exact zAJ.mono _ _ _ _ _ _ _ _)
   |(with_reducible exact LeO.refl _)
   |(with_reducible exact LeO.none _)
   |(with_reducible refine LeO.ite ?_ ?_)
   |(with_reducible refine LeO.bind ?_ (fun _=>?_))
   |exact ih0 _ _ _ _ _ _ _
   |exact ih1 _ _ _ _ _ _ _ _ _ _ _
   |exact zAM.mono _ _ _ _ _
   |exact zAN.mono _ _ _ _ _
   |exact zAX.mono _ _ _ _ _ _
   |exact zAH.mono _ _ _ _ _ _ _
   |exact zAJ.mono _ _ _ _ _ _ _ _
   |exact LeO.none _
   |refine LeO.ite ?_ ?_
   |refine LeO.bind ?_ (fun _=>?_)
set_option maxHeartbeats 8000000 in
set_option maxRecDepth 100000 in
theorem zAP.calls (k:Nat) (a0_0:ByteArray) (A0_1:Option Addr) (c0_1:Nat) (l0_1:List (S47)) (a0_2:Int) (A0_3:Option Addr) (c0_3:Nat) (l0_3:List (S33)) (r1:List Int) (r2:Int) (r3:Int) (w:World) (hr0_1:Kd.C k47 w A0_1 l0_1.length l0_1) (hc0_1:l0_1.length≤c0_1) (hr0_3:Kd.C k33 w A0_3 l0_3.length l0_3) (hc0_3:l0_3.length≤c0_3) (h:zAP.f k a0_0 l0_1 a0_2 l0_3=some (r1,r2,r3)) :
  Calls Tryd.prog 34 #[.agg #[.string a0_0,.slice A0_1 l0_1.length c0_1,.int .i64 a0_2,.slice A0_3 l0_3.length c0_3]] w fun e w'=>∃ v0_:Value,e = .returned (.tuple #[v0_,.int .i64 r2,.int .i64 r3])∧Kd.R (Kd.int .i64) 3 w' w.heap.size (fun _=>True) v0_ r1∧Below w.heap.size w w':=by
 have hu25:=Tryd.underlying25
 have hu33:=Tryd.underlying33
 have HR0_1:=aK_ hr0_1
 have HC0_1:=aK_ hc0_1
 clear hr0_1 hc0_1
 have HR0_3:=aK_ hr0_3
 have HC0_3:=aK_ hc0_3
 clear hr0_3 hc0_3
 have HB:=aK_ (Below.refl w.heap.size w)
 have H:((zAM.f k a0_0 l0_1 a0_2 l0_3).bind fun bt731=>(if bt731.2=0 then ((zAN.f k a0_0 l0_1 a0_2 l0_3).bind fun bt733=>(zAP.l0 k bt733.1 ([]:List Int) 0 a0_0 l0_1 a0_2 l0_3)) else (some (([]:List Int),bt731.1,bt731.2))))=some (r1,r2,r3):=h
 clear h
 replace H:=Option.bind_eq_some_iff.mp H
 obtain ⟨⟨t731,t732⟩,A20,H⟩:=H
 replace H:(if t732=0 then ((zAN.f k a0_0 l0_1 a0_2 l0_3).bind fun bt733=>(zAP.l0 k bt733.1 ([]:List Int) 0 a0_0 l0_1 a0_2 l0_3)) else (some (([]:List Int),t731,t732)))=some (r1,r2,r3):=H
 have A2:=aK_ A20
 clear A20
 by_cases c3:t732=0
 rotate_left
 ·rw [if_neg c3] at H
  have c3b0:(t732 == 0)=false:=beq_eq_false_iff_ne.mpr c3
  have c3b1:(t732 != 0)=true:=bne_iff_ne.mpr c3
  simp only [Option.some.injEq,Prod.mk.injEq] at H
  obtain ⟨rfl,rfl,rfl⟩:=H
  go_enter Tryd.func34,Tryd.ntmps34
  go_wp2_with (first|((with_reducible refine zAZ (N:=1) rfl ?_);refine zAW ?hg (N:=1) ?hd (cs:=#[.string a0_0,.slice A0_1 l0_1.length c0_1,.int .i64 a0_2,.slice A0_3 l0_3.length c0_3]) (t:=25) ?hr ?_;(case hd=>rfl);(case hg=>rfl);(case hr=>first|(go_simp;done)|(go_simp;rfl));intro gb730 hg w83 hbox hb;have n0_:=aK_ (zAG (aH_ HB.out) hb);have n1_:=aK_ (hbox);have n2_:=aK_ ((by rw [hg];exact (zAD (aH_ HB.out)):w.heap.size≤gb730));have n3_:=aK_ ((by rw [hg];exact (zAD (aH_ HB.out)):w.heap.size≤gb730));clear HB;have HB:=n0_;have BK730:=n1_;have GW730:=n2_;have GE730:=n3_;clear n0_ n1_ n2_ n3_;clear hb hbox hg;have hcz84_0:w83.cell? ⟨gb730,0,none⟩=some (.string a0_0):=(zAB BK730.out 0).trans rfl;have hcz84_1:w83.cell? ⟨gb730,1,none⟩=some (.slice A0_1 l0_1.length c0_1):=(zAB BK730.out 1).trans rfl;have hcz84_2:w83.cell? ⟨gb730,2,none⟩=some (.int .i64 a0_2):=(zAB BK730.out 2).trans rfl;have hcz84_3:w83.cell? ⟨gb730,3,none⟩=some (.slice A0_3 l0_3.length c0_3):=(zAB BK730.out 3).trans rfl;have hfz84_0:=zAA BK730.out 0;have hfz84_1:=zAA BK730.out 1;have hfz84_2:=zAA BK730.out 2;have hfz84_3:=zAA BK730.out 3)|((with_reducible refine zAc (f:=17) rfl ?_);refine goesL_ (some 18) rfl rfl Tryd.func17 (by kernel_rfl) rfl #[.agg #[.string a0_0,.slice A0_1 l0_1.length c0_1,.int .i64 a0_2,.slice A0_3 l0_3.length c0_3]] rfl aM_ ?_;(with_reducible refine (zAM.calls k a0_0 _ _ l0_1 a0_2 _ _ l0_3 t731 t732 _ ?side1 ?side2 ?side3 ?side4 A2.out).mono ?_);(case side1=>repeat (first|exact (Kd.C_below HR0_1.out HB.out)|(with_reducible refine Kd.C_alloc ?_ _)|(with_reducible refine Kd.C_drewN ?_ _)|(with_reducible refine Kd.C_drew ?_)));(case side2=>exact HC0_1.out);(case side3=>repeat (first|exact (Kd.C_below HR0_3.out HB.out)|(with_reducible refine Kd.C_alloc ?_ _)|(with_reducible refine Kd.C_drewN ?_ _)|(with_reducible refine Kd.C_drew ?_)));(case side4=>exact HC0_3.out);rintro e w85 ⟨rfl,hb⟩;refine ⟨_,rfl,?_⟩;have n0_:=aK_ (zAY (g:=gb730) (o:=.cells #[.string a0_0,.slice A0_1 l0_1.length c0_1,.int .i64 a0_2,.slice A0_3 l0_3.length c0_3] 25 (0,0)) (aB_ BK730.out) hb);have n1_:=aK_ (zAG (aI_ HB.out GE730.out) hb);clear BK730;clear HB;have BK730:=n0_;have HB:=n1_;clear n0_ n1_;(try clear hb);(try clear hb2);(try clear hk);(try clear hi)))
  go_ret3
  exact ⟨_,by first|rfl|(simp [zAE,zAF] <;> rfl)|(simp [*,zAE,zAF] <;> rfl),by first|exact Kd.R_nil _ _ _ _ _|exact Kd.N_nil _ _ _ _ _|exact Kd.V_nil _ _ _ _ _|exact Kd.Q_nil _ _ _ _ _|exact Kd.S_nil _ _ _ _ _,aI_ HB.out GE730.out⟩
 rw [if_pos c3] at H
 have c3b0:(t732 == 0)=true:=beq_iff_eq.mpr c3
 have c3b1:(t732 != 0)=false:=bne_eq_false_iff_eq.mpr c3
 clear c3
 replace H:=Option.bind_eq_some_iff.mp H
 obtain ⟨⟨t733,t736⟩,A40,H⟩:=H
 replace H:(zAP.l0 k t733 ([]:List Int) 0 a0_0 l0_1 a0_2 l0_3)=some (r1,r2,r3):=H
 have A4:=aK_ A40
 clear A40
 have H':=aK_ H
 clear H
 go_enter Tryd.func34,Tryd.ntmps34
 go_wp2_with (first|((with_reducible refine zAZ (N:=1) rfl ?_);refine zAW ?hg (N:=1) ?hd (cs:=#[.string a0_0,.slice A0_1 l0_1.length c0_1,.int .i64 a0_2,.slice A0_3 l0_3.length c0_3]) (t:=25) ?hr ?_;(case hd=>rfl);(case hg=>rfl);(case hr=>first|(go_simp;done)|(go_simp;rfl));intro gb730 hg w5 hbox hb;have n0_:=aK_ (zAG (aH_ HB.out) hb);have n1_:=aK_ (hbox);have n2_:=aK_ ((by rw [hg];exact (zAD (aH_ HB.out)):w.heap.size≤gb730));have n3_:=aK_ ((by rw [hg];exact (zAD (aH_ HB.out)):w.heap.size≤gb730));clear HB;have HB:=n0_;have BK730:=n1_;have GW730:=n2_;have GE730:=n3_;clear n0_ n1_ n2_ n3_;clear hb hbox hg;have hcz6_0:w5.cell? ⟨gb730,0,none⟩=some (.string a0_0):=(zAB BK730.out 0).trans rfl;have hcz6_1:w5.cell? ⟨gb730,1,none⟩=some (.slice A0_1 l0_1.length c0_1):=(zAB BK730.out 1).trans rfl;have hcz6_2:w5.cell? ⟨gb730,2,none⟩=some (.int .i64 a0_2):=(zAB BK730.out 2).trans rfl;have hcz6_3:w5.cell? ⟨gb730,3,none⟩=some (.slice A0_3 l0_3.length c0_3):=(zAB BK730.out 3).trans rfl;have hfz6_0:=zAA BK730.out 0;have hfz6_1:=zAA BK730.out 1;have hfz6_2:=zAA BK730.out 2;have hfz6_3:=zAA BK730.out 3)|((with_reducible refine zAc (f:=17) rfl ?_);refine goesL_ (some 18) rfl rfl Tryd.func17 (by kernel_rfl) rfl #[.agg #[.string a0_0,.slice A0_1 l0_1.length c0_1,.int .i64 a0_2,.slice A0_3 l0_3.length c0_3]] rfl aM_ ?_;(with_reducible refine (zAM.calls k a0_0 _ _ l0_1 a0_2 _ _ l0_3 t731 t732 _ ?side1 ?side2 ?side3 ?side4 A2.out).mono ?_);(case side1=>repeat (first|exact (Kd.C_below HR0_1.out HB.out)|(with_reducible refine Kd.C_alloc ?_ _)|(with_reducible refine Kd.C_drewN ?_ _)|(with_reducible refine Kd.C_drew ?_)));(case side2=>exact HC0_1.out);(case side3=>repeat (first|exact (Kd.C_below HR0_3.out HB.out)|(with_reducible refine Kd.C_alloc ?_ _)|(with_reducible refine Kd.C_drewN ?_ _)|(with_reducible refine Kd.C_drew ?_)));(case side4=>exact HC0_3.out);rintro e w7 ⟨rfl,hb⟩;refine ⟨_,rfl,?_⟩;have n0_:=aK_ (zAY (g:=gb730) (o:=.cells #[.string a0_0,.slice A0_1 l0_1.length c0_1,.int .i64 a0_2,.slice A0_3 l0_3.length c0_3] 25 (0,0)) (aB_ BK730.out) hb);have n1_:=aK_ (zAG (aI_ HB.out GE730.out) hb);clear BK730;clear HB;have BK730:=n0_;have HB:=n1_;clear n0_ n1_;(try clear hb);(try clear hb2);(try clear hk);(try clear hi);have hcz8_0:w7.cell? ⟨gb730,0,none⟩=some (.string a0_0):=(zAB BK730.out 0).trans rfl;have hcz8_1:w7.cell? ⟨gb730,1,none⟩=some (.slice A0_1 l0_1.length c0_1):=(zAB BK730.out 1).trans rfl;have hcz8_2:w7.cell? ⟨gb730,2,none⟩=some (.int .i64 a0_2):=(zAB BK730.out 2).trans rfl;have hcz8_3:w7.cell? ⟨gb730,3,none⟩=some (.slice A0_3 l0_3.length c0_3):=(zAB BK730.out 3).trans rfl;have hfz8_0:=zAA BK730.out 0;have hfz8_1:=zAA BK730.out 1;have hfz8_2:=zAA BK730.out 2;have hfz8_3:=zAA BK730.out 3)|((with_reducible refine zAc (f:=28) rfl ?_);refine goesL_ (some 27) rfl rfl Tryd.func28 (by kernel_rfl) rfl #[.agg #[.string a0_0,.slice A0_1 l0_1.length c0_1,.int .i64 a0_2,.slice A0_3 l0_3.length c0_3]] rfl aM_ ?_;(with_reducible refine (zAN.calls k a0_0 _ _ l0_1 a0_2 _ _ l0_3 t733 t736 _ ?side1 ?side2 ?side3 ?side4 A4.out).mono ?_);(case side1=>repeat (first|exact (Kd.C_below HR0_1.out HB.out)|(with_reducible refine Kd.C_alloc ?_ _)|(with_reducible refine Kd.C_drewN ?_ _)|(with_reducible refine Kd.C_drew ?_)));(case side2=>exact HC0_1.out);(case side3=>repeat (first|exact (Kd.C_below HR0_3.out HB.out)|(with_reducible refine Kd.C_alloc ?_ _)|(with_reducible refine Kd.C_drewN ?_ _)|(with_reducible refine Kd.C_drew ?_)));(case side4=>exact HC0_3.out);rintro e w9 ⟨v734,rfl,ho0,hb⟩;refine ⟨_,rfl,?_⟩;have n0_:=aK_ (Kd.R_lower ho0 (zAD (aI_ HB.out GE730.out)));have n1_:=aK_ (zAY (g:=gb730) (o:=.cells #[.string a0_0,.slice A0_1 l0_1.length c0_1,.int .i64 a0_2,.slice A0_3 l0_3.length c0_3] 25 (0,0)) (aB_ BK730.out) hb);have n2_:=aK_ (zAG (aI_ HB.out GE730.out) hb);clear BK730;clear HB;have HO735:=n0_;have BK730:=n1_;have HB:=n2_;clear n0_ n1_ n2_;(try clear hb);(try clear hb2);(try clear hk);(try clear hi);(try clear ho0)))
 (try simp only [Act.put,List.setIfInBounds_toArray,List.set_cons_zero,List.set_cons_succ])
 go_loopg [9,10] k (fun kq v9 v10 w'=>∃ (x9_1:List Int) (x10_1:Int),v10 = .int .i64 x10_1∧zAa (zAP.l0 kq t733 x9_1 x10_1 a0_0 l0_1 a0_2 l0_3=some (r1,r2,r3))∧zAa (kq≤k)∧zAa (Kd.R Kd.bool 4 w' w.heap.size (fun _=>True) v734 t733)∧zAa (Kd.R (Kd.int .i64) 3 w' w.heap.size (fun _=>True) v9 x9_1)∧zAa (w'.heap[gb730]?=some (.cells #[.string a0_0,(.slice A0_1 l0_1.length c0_1),.int .i64 a0_2,(.slice A0_3 l0_3.length c0_3)] 25 (0,0)))∧zAa (Below w.heap.size w w'))
 case atStart=>exact ⟨(([]:List Int)),(0),aS2_,H',⟨Nat.le_refl _⟩,⟨aR_ HO735.out⟩,⟨by first|exact Kd.R_nil _ _ _ _ _|exact Kd.N_nil _ _ _ _ _|exact Kd.V_nil _ _ _ _ _|exact Kd.Q_nil _ _ _ _ _|exact Kd.S_nil _ _ _ _ _⟩,⟨aB_ BK730.out⟩,⟨aI_ HB.out GE730.out⟩⟩
 clear H'
 try clear c1
 try clear c2
 try clear p2
 try clear c3
 try clear c3b0
 try clear c3b1
 try clear hcz6_0
 try clear hcz6_1
 try clear hcz6_2
 try clear hcz6_3
 try clear hcz8_0
 try clear hcz8_1
 try clear hcz8_2
 try clear hcz8_3
 try clear hfz6_0
 try clear hfz6_1
 try clear hfz6_2
 try clear hfz6_3
 try clear hfz8_0
 try clear hfz8_1
 try clear hfz8_2
 try clear hfz8_3
 obtain ⟨x9_1,x10_1,rfl,HA,HK1,HO_7,HO_9,BK730,HB⟩:=hrel
 cases gk with
 |zero=>exact absurd HA.out (by simp [zAP.l0])
 |succ k1=>?_
 have H:=HA.out
 clear HA
 simp only [zAP.l0] at H
 by_cases c10:x10_1<(l0_3.length:Int)
 rotate_left
 ·rw [if_neg c10] at H
  have c10b0:decide (x10_1<(l0_3.length:Int))=false:=decide_eq_false c10
  clear c10
  obtain ⟨ji75,hji75⟩:∃ j_:Int,(wrap64 ((x9_1.length:Int) - 1))=j_:=⟨_,rfl⟩
  replace H:(if 0≤(ji75) then (if (ji75)<(x9_1.length:Int) then (if (rd x9_1 (ji75))=1 then (some (x9_1,0,0)) else (some (([]:List Int),ji75,80))) else (none)) else (none))=some (r1,r2,r3):=by first|(rw [hji75] at H;exact H)|(simp only [hji75] at H ⊢;exact H)
  have hji75w:(IntKind.i64.wrap ((x9_1.length:Int) - 1))=ji75:=(i64_w _).trans hji75
  have c76:=yes_ H
  rw [if_pos c76] at H
  have c76b0:decide (0≤(ji75))=true:=decide_eq_true c76
  clear c76
  have c77:=yes_ H
  rw [if_pos c77] at H
  have c77b0:decide ((ji75)<(x9_1.length:Int))=true:=decide_eq_true c77
  clear c77
  by_cases c78:(rd x9_1 (ji75))=1
  ·rw [if_pos c78] at H
   have c78b0:((rd x9_1 (ji75)) == 1)=true:=beq_iff_eq.mpr c78
   have c78b1:((rd x9_1 (ji75)) != 1)=false:=bne_eq_false_iff_eq.mpr c78
   clear c78
   simp only [Option.some.injEq,Prod.mk.injEq] at H
   obtain ⟨rfl,rfl,rfl⟩:=H
   have hcz79_0:wr.cell? ⟨gb730,0,none⟩=some (.string a0_0):=(zAB BK730.out 0).trans rfl
   have hcz79_1:wr.cell? ⟨gb730,1,none⟩=some (.slice A0_1 l0_1.length c0_1):=(zAB BK730.out 1).trans rfl
   have hcz79_2:wr.cell? ⟨gb730,2,none⟩=some (.int .i64 a0_2):=(zAB BK730.out 2).trans rfl
   have hcz79_3:wr.cell? ⟨gb730,3,none⟩=some (.slice A0_3 l0_3.length c0_3):=(zAB BK730.out 3).trans rfl
   have hfz79_0:=zAA BK730.out 0
   have hfz79_1:=zAA BK730.out 1
   have hfz79_2:=zAA BK730.out 2
   have hfz79_3:=zAA BK730.out 3
   obtain ⟨Ao80,co80,eo80⟩:=Kd.R_slice HO_9.out
   subst eo80
   have p737:0≤((ji75):Int):=aD_
   have q737:(ji75)<(x9_1.length:Int):=aD_
   obtain ⟨ad737,e737,hx737_0⟩:=Kd.at_int (Kd.R_reads' HO_9.out).2.2 (ji75) p737 q737
   cases e737
   replace p737:=eq_true p737
   replace q737:=eq_true q737
   go_wp2
   go_ret3
   exact ⟨_,by first|rfl|(simp [zAE,zAF] <;> rfl)|(simp only [← hji75];first|rfl|(simp [zAE,zAF] <;> rfl))|(simp [*,zAE,zAF] <;> rfl),by refine aR_ ?_;exact HO_9.out,aI_ HB.out GE730.out⟩
  rw [if_neg c78] at H
  have c78b0:((rd x9_1 (ji75)) == 1)=false:=beq_eq_false_iff_ne.mpr c78
  have c78b1:((rd x9_1 (ji75)) != 1)=true:=bne_iff_ne.mpr c78
  simp only [Option.some.injEq,Prod.mk.injEq] at H
  obtain ⟨rfl,rfl,rfl⟩:=H
  have hcz81_0:wr.cell? ⟨gb730,0,none⟩=some (.string a0_0):=(zAB BK730.out 0).trans rfl
  have hcz81_1:wr.cell? ⟨gb730,1,none⟩=some (.slice A0_1 l0_1.length c0_1):=(zAB BK730.out 1).trans rfl
  have hcz81_2:wr.cell? ⟨gb730,2,none⟩=some (.int .i64 a0_2):=(zAB BK730.out 2).trans rfl
  have hcz81_3:wr.cell? ⟨gb730,3,none⟩=some (.slice A0_3 l0_3.length c0_3):=(zAB BK730.out 3).trans rfl
  have hfz81_0:=zAA BK730.out 0
  have hfz81_1:=zAA BK730.out 1
  have hfz81_2:=zAA BK730.out 2
  have hfz81_3:=zAA BK730.out 3
  obtain ⟨Ao82,co82,eo82⟩:=Kd.R_slice HO_9.out
  subst eo82
  have p737:0≤((ji75):Int):=aD_
  have q737:(ji75)<(x9_1.length:Int):=aD_
  obtain ⟨ad737,e737,hx737_0⟩:=Kd.at_int (Kd.R_reads' HO_9.out).2.2 (ji75) p737 q737
  cases e737
  replace p737:=eq_true p737
  replace q737:=eq_true q737
  go_wp2
  go_ret3
  exact ⟨_,by first|rfl|(simp [zAE,zAF] <;> rfl)|(simp only [← hji75];first|rfl|(simp [zAE,zAF] <;> rfl))|(simp [*,zAE,zAF] <;> rfl),by first|exact Kd.R_nil _ _ _ _ _|exact Kd.N_nil _ _ _ _ _|exact Kd.V_nil _ _ _ _ _|exact Kd.Q_nil _ _ _ _ _|exact Kd.S_nil _ _ _ _ _,aI_ HB.out GE730.out⟩
 rw [if_pos c10] at H
 have c10b0:decide (x10_1<(l0_3.length:Int))=true:=decide_eq_true c10
 clear c10
 have c11:=yes_ H
 rw [if_pos c11] at H
 have c11b0:decide (0≤x10_1)=true:=decide_eq_true c11
 clear c11
 replace H:=Option.bind_eq_some_iff.mp H
 obtain ⟨t739,A120,H⟩:=H
 replace H:(zAP.l1 k1 t733 x9_1 x10_1 ([]:List Int) ([]:List Int) (wrap64 (x10_1 - 1)) t739 a0_0 l0_1 a0_2 l0_3)=some (r1,r2,r3):=H
 have A12:=aK_ A120
 clear A120
 have H':=aK_ H
 clear H
 have hcz13_0:wr.cell? ⟨gb730,0,none⟩=some (.string a0_0):=(zAB BK730.out 0).trans rfl
 have hcz13_1:wr.cell? ⟨gb730,1,none⟩=some (.slice A0_1 l0_1.length c0_1):=(zAB BK730.out 1).trans rfl
 have hcz13_2:wr.cell? ⟨gb730,2,none⟩=some (.int .i64 a0_2):=(zAB BK730.out 2).trans rfl
 have hcz13_3:wr.cell? ⟨gb730,3,none⟩=some (.slice A0_3 l0_3.length c0_3):=(zAB BK730.out 3).trans rfl
 have hfz13_0:=zAA BK730.out 0
 have hfz13_1:=zAA BK730.out 1
 have hfz13_2:=zAA BK730.out 2
 have hfz13_3:=zAA BK730.out 3
 have p738:0≤(x10_1:Int):=aD_
 have q738:x10_1<(l0_3.length:Int):=aD_
 obtain ⟨ad738,A738_4,c738_4,e738,hx738_0,hx738_1,hx738_2,hx738_3,hx738_4,hx738_5,hl738_4,hi738_4⟩:=at_T33 HR0_3.out x10_1 p738 q738
 cases e738
 replace hx738_0:=(HB.out.cell (World.block_lt_of_cell? w _ hx738_0)).trans hx738_0
 replace hx738_1:=(HB.out.cell (World.block_lt_of_cell? w _ hx738_1)).trans hx738_1
 replace hx738_2:=(HB.out.cell (World.block_lt_of_cell? w _ hx738_2)).trans hx738_2
 replace hx738_3:=(HB.out.cell (World.block_lt_of_cell? w _ hx738_3)).trans hx738_3
 replace hx738_4:=(HB.out.cell (World.block_lt_of_cell? w _ hx738_4)).trans hx738_4
 replace hx738_5:=(HB.out.cell (World.block_lt_of_cell? w _ hx738_5)).trans hx738_5
 have HR738_4:=aK_ hi738_4
 have HC738_4:=aK_ hl738_4
 clear hi738_4 hl738_4
 replace p738:=eq_true p738
 replace q738:=eq_true q738
 go_wp2_with (first|((with_reducible refine zAc (f:=24) rfl ?_);refine goesL_ (some 44) rfl rfl Tryd.func24 (by kernel_rfl) rfl #[.agg #[.int .i64 ((zAC l0_3 x10_1).f0),.int .i64 ((zAC l0_3 x10_1).f1),.int .i64 ((zAC l0_3 x10_1).f2),.int .i64 ((zAC l0_3 x10_1).f3),.slice A738_4 ((zAC l0_3 x10_1).f4).length c738_4,.int .i64 ((zAC l0_3 x10_1).f5)]] rfl aM_ ?_;(with_reducible refine (zAH.calls k1 ((zAC l0_3 x10_1).f0) ((zAC l0_3 x10_1).f1) ((zAC l0_3 x10_1).f2) ((zAC l0_3 x10_1).f3) _ _ ((zAC l0_3 x10_1).f4) ((zAC l0_3 x10_1).f5) t739 _ ?side1 ?side2 A12.out).mono ?_);(case side1=>repeat (first|exact (Kd.C_below HR738_4.out HB.out)|(with_reducible refine Kd.C_alloc ?_ _)|(with_reducible refine Kd.C_drewN ?_ _)|(with_reducible refine Kd.C_drew ?_)));(case side2=>exact HC738_4.out);rintro e w14 ⟨rfl,hb⟩;refine ⟨_,rfl,?_⟩;have n0_:=aK_ (Kd.R_below (aR_ HO_7.out) hb);have n1_:=aK_ (Kd.R_below (aR_ HO_9.out) hb);have n2_:=aK_ (zAY (g:=gb730) (o:=.cells #[.string a0_0,.slice A0_1 l0_1.length c0_1,.int .i64 a0_2,.slice (some ad738) l0_3.length c0_3] 25 (0,0)) (aB_ BK730.out) hb);have n3_:=aK_ (zAG (aI_ HB.out GE730.out) hb);clear HO_7;clear HO_9;clear BK730;clear HB;have HO_7:=n0_;have HO_9:=n1_;have BK730:=n2_;have HB:=n3_;clear n0_ n1_ n2_ n3_;(try clear hb);(try clear hb2);(try clear hk);(try clear hi)))
 (try simp only [Act.put,List.setIfInBounds_toArray,List.set_cons_zero,List.set_cons_succ])
 go_loopg [11,12,13,14] k1 (fun kq v11 v12 v13 v14 w'=>∃ (x11_2:List Int) (x12_2:List Int) (x13_2:Int) (x14_2:Int),v13 = .int .i64 x13_2∧v14 = .int .i64 x14_2∧zAa (zAP.l1 kq t733 x9_1 x10_1 x11_2 x12_2 x13_2 x14_2 a0_0 l0_1 a0_2 l0_3=some (r1,r2,r3))∧zAa (kq≤k1)∧zAa (Kd.R Kd.bool 4 w' w.heap.size (fun _=>True) v734 t733)∧zAa (Kd.R (Kd.int .i64) 3 w' w.heap.size (fun k_=>some k_≠(v11:Value).ownBlock∧some k_≠(v12:Value).ownBlock) u9 x9_1)∧zAa (Kd.R (Kd.int .i64) 3 w' w.heap.size (fun k_=>some k_≠(u9:Value).ownBlock∧some k_≠(v12:Value).ownBlock) v11 x11_2)∧zAa (Kd.R (Kd.int .i64) 3 w' w.heap.size (fun k_=>some k_≠(u9:Value).ownBlock∧some k_≠(v11:Value).ownBlock) v12 x12_2)∧zAa (w'.heap[gb730]?=some (.cells #[.string a0_0,(.slice A0_1 l0_1.length c0_1),.int .i64 a0_2,(.slice (some ad738) l0_3.length c0_3)] 25 (0,0)))∧zAa (Below w.heap.size w w'))
 case atStart=>exact ⟨(([]:List Int)),(([]:List Int)),(wrap64 (x10_1 - 1)),(t739),aS2_,aS2_,H',⟨Nat.le_refl _⟩,⟨aR_ HO_7.out⟩,⟨by refine aR_ ?_;exact Kd.R_mono HO_9.out (fun _ hk=>⟨(by simp [Value.ownBlock]),(by simp [Value.ownBlock])⟩)⟩,⟨by first|exact Kd.R_nil _ _ _ _ _|exact Kd.N_nil _ _ _ _ _|exact Kd.V_nil _ _ _ _ _|exact Kd.Q_nil _ _ _ _ _|exact Kd.S_nil _ _ _ _ _⟩,⟨by first|exact Kd.R_nil _ _ _ _ _|exact Kd.N_nil _ _ _ _ _|exact Kd.V_nil _ _ _ _ _|exact Kd.Q_nil _ _ _ _ _|exact Kd.S_nil _ _ _ _ _⟩,⟨aB_ BK730.out⟩,⟨aI_ HB.out GE730.out⟩⟩
 clear H'
 try clear c1
 try clear c2
 try clear p2
 try clear c3
 try clear c3b0
 try clear c3b1
 try clear p6
 try clear c7
 try clear p7
 try clear q7
 try clear hx7
 try clear c10
 try clear c10b0
 try clear c11
 try clear c11b0
 try clear hcz13_0
 try clear hcz13_1
 try clear hcz13_2
 try clear hcz13_3
 try clear hcz6_0
 try clear hcz6_1
 try clear hcz6_2
 try clear hcz6_3
 try clear hcz8_0
 try clear hcz8_1
 try clear hcz8_2
 try clear hcz8_3
 try clear hfz13_0
 try clear hfz13_1
 try clear hfz13_2
 try clear hfz13_3
 try clear hfz6_0
 try clear hfz6_1
 try clear hfz6_2
 try clear hfz6_3
 try clear hfz8_0
 try clear hfz8_1
 try clear hfz8_2
 try clear hfz8_3
 try clear hx738_0
 try clear hx738_1
 try clear hx738_2
 try clear hx738_3
 try clear hx738_4
 try clear hx738_5
 try clear p2
 try clear p738
 try clear q738
 obtain ⟨x11_2,x12_2,x13_2,x14_2,rfl,rfl,HA,HK2,HO_7,HO_9,HO_11,HO_12,BK730,HB⟩:=hrel
 cases gk with
 |zero=>exact absurd HA.out (by simp [zAP.l1])
 |succ k2=>?_
 have H:=HA.out
 clear HA
 simp only [zAP.l1] at H
 by_cases c15:x14_2 > 0
 ·rw [if_pos c15] at H
  have c15b0:decide (0<x14_2)=true:=decide_eq_true c15
  clear c15
  have c16:=yes_ H
  rw [if_pos c16] at H
  have c16b0:decide (0≤x13_2)=true:=decide_eq_true c16
  clear c16
  have c17:=yes_ H
  rw [if_pos c17] at H
  have c17b0:decide (x13_2<(x9_1.length:Int))=true:=decide_eq_true c17
  clear c17
  obtain ⟨y741,hy741⟩:∃ y_:List Int,y_=(([rd x9_1 x13_2]:List Int)):=⟨_,rfl⟩
  replace H:(if y741.length+x11_2.length<17592186044416 then (if x12_2.length<17592186044416 then ((zAX.f k2 a0_0 l0_1 a0_2 l0_3 x13_2).bind fun t750=>(zAP.l1 k2 t733 x9_1 x10_1 (y741 ++ x11_2) (x12_2 ++ [x13_2]) (wrap64 (t750 - 1)) (wrap64 (x14_2 - 1)) a0_0 l0_1 a0_2 l0_3)) else (none)) else (none))=some (r1,r2,r3):=by first|(rw [hy741];with_reducible exact H)|(have H2_:=(Option.bind_some _ _).symm.trans H;rw [hy741];with_reducible exact H2_)|(have H2_:=(Option.bind_some _ _).symm.trans H;with_reducible exact H2_)|with_reducible exact H|(rw [hy741];exact H)|exact H
  have Ny741:=aK_ hy741
  clear hy741
  have c18:=yes_ H
  rw [if_pos c18] at H
  have LMc18:=aK_ c18
  clear c18
  obtain ⟨y744,hy744⟩:∃ y_:List Int,y_=(y741 ++ x11_2):=⟨_,rfl⟩
  replace H:(if x12_2.length<17592186044416 then ((zAX.f k2 a0_0 l0_1 a0_2 l0_3 x13_2).bind fun t750=>(zAP.l1 k2 t733 x9_1 x10_1 y744 (x12_2 ++ [x13_2]) (wrap64 (t750 - 1)) (wrap64 (x14_2 - 1)) a0_0 l0_1 a0_2 l0_3)) else (none))=some (r1,r2,r3):=by first|(rw [hy744];with_reducible exact H)|(have H2_:=(Option.bind_some _ _).symm.trans H;rw [hy744];with_reducible exact H2_)|(have H2_:=(Option.bind_some _ _).symm.trans H;with_reducible exact H2_)|with_reducible exact H|(rw [hy744];exact H)|exact H
  have Ny744:=aK_ hy744
  clear hy744
  have c19:=yes_ H
  rw [if_pos c19] at H
  have LMc19:=aK_ c19
  clear c19
  obtain ⟨y747,hy747⟩:∃ y_:List Int,y_=(x12_2 ++ [x13_2]):=⟨_,rfl⟩
  replace H:((zAX.f k2 a0_0 l0_1 a0_2 l0_3 x13_2).bind fun t750=>(zAP.l1 k2 t733 x9_1 x10_1 y744 y747 (wrap64 (t750 - 1)) (wrap64 (x14_2 - 1)) a0_0 l0_1 a0_2 l0_3))=some (r1,r2,r3):=by first|(rw [hy747];with_reducible exact H)|(have H2_:=(Option.bind_some _ _).symm.trans H;rw [hy747];with_reducible exact H2_)|(have H2_:=(Option.bind_some _ _).symm.trans H;with_reducible exact H2_)|with_reducible exact H|(rw [hy747];exact H)|exact H
  have Ny747:=aK_ hy747
  clear hy747
  replace H:=Option.bind_eq_some_iff.mp H
  obtain ⟨t750,A200,H⟩:=H
  replace H:(zAP.l1 k2 t733 x9_1 x10_1 y744 y747 (wrap64 (t750 - 1)) (wrap64 (x14_2 - 1)) a0_0 l0_1 a0_2 l0_3)=some (r1,r2,r3):=H
  have A20:=aK_ A200
  clear A200
  have H':=aK_ H
  clear H
  obtain ⟨Ao21,co21,eo21⟩:=Kd.R_slice HO_9.out
  subst eo21
  have p740:0≤(x13_2:Int):=aD_
  have q740:x13_2<(x9_1.length:Int):=aD_
  obtain ⟨ad740,e740,hx740_0⟩:=Kd.at_int (Kd.R_reads' HO_9.out).2.2 x13_2 p740 q740
  cases e740
  replace p740:=eq_true p740
  replace q740:=eq_true q740
  go_wp2_with (first|((with_reducible refine zAZ (N:=53) rfl ?_);refine Kd.R_lit (Kd.int .i64) _ 3 ?hg (N:=53) ?hd (xs:=([rd x9_1 x13_2]:List Int)) (inner:=[.int .i64 (rd x9_1 x13_2)]) (ok:=fun _=>True) (okp:=fun _=>True) ?hr ?hp (fun _ hk=>hk) trivial (Below.refl _ _) (Nat.le_refl _) (by simp) ?_;(case hd=>rfl);(case hg=>rfl);(case hr=>first|(go_simp;done)|(go_simp;rfl));(case hp=>exact (Reps.one (show Kd.M (Kd.int .i64) _ _ _ (rd x9_1 x13_2) [.int .i64 (rd x9_1 x13_2)] from rfl) (Reps.none _ _)));intro v742 w22 ho23 hb hg_ hnew_;clear hg_ hnew_;(first|rw [← Ny741.out] at ho23|(simp only [Int.reduceToNat] at ho23;rw [← Ny741.out] at ho23));have n0_:=aK_ (Kd.R_below (aR_ HO_7.out) hb);have n1_:=aK_ (Kd.R_elder' (aR_ HO_9.out) (Kd.R_base ho23) hb);have n2_:=aK_ (Kd.R_elder' (aR_ HO_11.out) (Kd.R_base ho23) hb);have n3_:=aK_ (Kd.R_elder' (aR_ HO_12.out) (Kd.R_base ho23) hb);have n4_:=aK_ (Kd.R_lower (Kd.R_new' (Kd.R_new' (Kd.R_new' ho23 (Kd.R_lt (aR_ HO_9.out))) (Kd.R_lt (aR_ HO_11.out))) (Kd.R_lt (aR_ HO_12.out))) (zAD (aI_ HB.out GE730.out)));have n5_:=aK_ (zAY (g:=gb730) (o:=.cells #[.string a0_0,.slice A0_1 l0_1.length c0_1,.int .i64 a0_2,.slice (some ad738) l0_3.length c0_3] 25 (0,0)) (aB_ BK730.out) hb);have n6_:=aK_ (zAG (aI_ HB.out GE730.out) hb);clear HO_7;clear HO_9;clear HO_11;clear HO_12;clear BK730;clear HB;have HO_7:=n0_;have HO_9:=n1_;have HO_11:=n2_;have HO_12:=n3_;have HO743:=n4_;have BK730:=n5_;have HB:=n6_;clear n0_ n1_ n2_ n3_ n4_ n5_ n6_;clear hb ho23;obtain ⟨Ao25,co25,eo25⟩:=Kd.R_slice HO_11.out;subst eo25)|((with_reducible refine gate_builtin (b:=.append) (xs:=#[.tmp 53,.tmp 54]) rfl ?_);at_builtin;refine Kd.R_append_rows (Kd.int .i64) (w0:=w) w.heap.size rfl (.tmp 53) (.tmp 54) 36 3 (.int .i64 0) 8 rfl Tryd.underlying36 info3 rfl (by decide) (by omega) v742 y741 x11_2 _ _ _ (fun k_=>some k_≠(.slice (some ad740) x9_1.length co21:Value).ownBlock∧some k_≠(.slice Ao25 x11_2.length co25:Value).ownBlock∧some k_≠(u12:Value).ownBlock) (fun _=>False) rfl rfl ?aO ?aR (fun _ _ h=>h) (fun _ h=>h.elim) ?aF ?aB ?aS ?aL ?_;(case aR=>repeat (first|exact (Kd.R_reads' HO_11.out).2.2|(with_reducible refine Kd.C_alloc ?_ _)|(with_reducible refine Kd.C_drewN ?_ _)|(with_reducible refine Kd.C_drew ?_)));(case aB=>exact (aI_ HB.out GE730.out));(case aF=>exact (fun k_ hk=>⟨Kd.fresh' (Kd.R_lt (aR_ HO_9.out)) k_ hk,Kd.fresh' (Kd.R_lt (aR_ HO_11.out)) k_ hk,Kd.fresh' (Kd.R_lt (aR_ HO_12.out)) k_ hk⟩));(case aO=>exact (by refine aR_ ?_;exact Kd.R_mono HO743.out (fun _ hk=>⟨hk.1.1.2,⟨hk.1.2,hk.2⟩⟩)));(case aS=>exact (zAD (aI_ HB.out GE730.out)));(case aL=>have:=LMc18.out;omega);intro v745 w24 ho hb hg hat;rw [← Ny744.out] at ho;have n0_:=aK_ (Kd.R_over' (aR_ HO_7.out) (Kd.R_typed (aR_ HO743.out)) (by decide) hg);have n1_:=aK_ (Kd.R_after (ok:=(fun k_=>some k_≠(.slice Ao25 x11_2.length co25:Value).ownBlock∧some k_≠(u12:Value).ownBlock)) (aR_ HO_9.out) hg hat);have n2_:=aK_ (Kd.R_after (ok:=(fun k_=>some k_≠(.slice (some ad740) x9_1.length co21:Value).ownBlock∧some k_≠(u12:Value).ownBlock)) (aR_ HO_11.out) hg hat);have n3_:=aK_ (Kd.R_after (ok:=(fun k_=>some k_≠(.slice (some ad740) x9_1.length co21:Value).ownBlock∧some k_≠(.slice Ao25 x11_2.length co25:Value).ownBlock)) (aR_ HO_12.out) hg hat);have n4_:=aK_ (blk_grown (g:=gb730) (o:=.cells #[.string a0_0,.slice A0_1 l0_1.length c0_1,.int .i64 a0_2,.slice (some ad738) l0_3.length c0_3] 25 (0,0)) (aB_ BK730.out) hg (Kd.R_ne HO743.out BK730.out (by decide)));have n5_:=aK_ (hb);have n6_:=aK_ (ho);clear HO_7;clear HO_9;clear HO_11;clear HO_12;clear BK730;clear HB;clear HO743;have HO_7:=n0_;have HO_9:=n1_;have HO_11:=n2_;have HO_12:=n3_;have BK730:=n4_;have HB:=n5_;have HO746:=n6_;clear n0_ n1_ n2_ n3_ n4_ n5_ n6_;clear ho hb hg hat)|((with_reducible refine gate_builtin (b:=.append) (xs:=#[.tmp 56,.tmp 58]) rfl ?_);at_builtin;refine Kd.R_append (Kd.int .i64) (w0:=w) w.heap.size rfl (.tmp 56) (.tmp 58) 36 3 (.int .i64 0) 8 rfl Tryd.underlying36 info3 rfl (by decide) (by omega) u12 x12_2 x13_2 [.int .i64 x13_2] (fun k_=>some k_≠(.slice (some ad740) x9_1.length co21:Value).ownBlock∧some k_≠(.slice Ao25 x11_2.length co25:Value).ownBlock∧some k_≠(v745:Value).ownBlock) (fun _=>False) rfl rfl ?aP (fun _ hk=>hk.elim) ?aF ?aO ?aB ?aS ?aL ?_;(case aP=>exact rfl);(case aB=>exact (aI_ HB.out GE730.out));(case aF=>exact (fun k_ hk=>⟨Kd.fresh' (Kd.R_lt (aR_ HO_9.out)) k_ hk,Kd.fresh' (Kd.R_lt (aR_ HO_11.out)) k_ hk,Kd.fresh' (Kd.R_lt (aR_ HO746.out)) k_ hk⟩));(case aO=>exact (by refine aR_ ?_;exact Kd.R_mono HO_12.out (fun _ hk=>⟨hk.1.1,⟨hk.1.2,hk.2⟩⟩)));(case aS=>exact (zAD (aI_ HB.out GE730.out)));(case aL=>have:=LMc19.out;omega);intro v748 w26 ho hb hg hat;rw [← Ny747.out] at ho;have n0_:=aK_ (Kd.R_over' (aR_ HO_7.out) (Kd.R_typed (aR_ HO_12.out)) (by decide) hg);have n1_:=aK_ (Kd.R_after (ok:=(fun k_=>some k_≠(.slice Ao25 x11_2.length co25:Value).ownBlock∧some k_≠(v745:Value).ownBlock)) (by refine aR_ ?_;exact Kd.R_mono HO_9.out (fun _ hk=>⟨⟨hk.1.1,hk.2⟩,hk.1.2⟩)) hg hat);have n2_:=aK_ (Kd.R_after (ok:=(fun k_=>some k_≠(.slice (some ad740) x9_1.length co21:Value).ownBlock∧some k_≠(v745:Value).ownBlock)) (by refine aR_ ?_;exact Kd.R_mono HO_11.out (fun _ hk=>⟨⟨hk.1.1,hk.2⟩,hk.1.2⟩)) hg hat);have n3_:=aK_ (blk_grown (g:=gb730) (o:=.cells #[.string a0_0,.slice A0_1 l0_1.length c0_1,.int .i64 a0_2,.slice (some ad738) l0_3.length c0_3] 25 (0,0)) (aB_ BK730.out) hg (Kd.R_ne HO_12.out BK730.out (by decide)));have n4_:=aK_ (Kd.R_after (ok:=(fun k_=>some k_≠(.slice (some ad740) x9_1.length co21:Value).ownBlock∧some k_≠(.slice Ao25 x11_2.length co25:Value).ownBlock)) (by refine aR_ ?_;exact Kd.R_mono HO746.out (fun _ hk=>⟨⟨hk.1,hk.2.1⟩,hk.2.2⟩)) hg hat);have n5_:=aK_ (hb);have n6_:=aK_ (ho);clear HO_7;clear HO_9;clear HO_11;clear BK730;clear HO746;clear HB;clear HO_12;have HO_7:=n0_;have HO_9:=n1_;have HO_11:=n2_;have BK730:=n3_;have HO746:=n4_;have HB:=n5_;have HO749:=n6_;clear n0_ n1_ n2_ n3_ n4_ n5_ n6_;clear ho hb hg hat;have hcz27_0:w26.cell? ⟨gb730,0,none⟩=some (.string a0_0):=(zAB BK730.out 0).trans rfl;have hcz27_1:w26.cell? ⟨gb730,1,none⟩=some (.slice A0_1 l0_1.length c0_1):=(zAB BK730.out 1).trans rfl;have hcz27_2:w26.cell? ⟨gb730,2,none⟩=some (.int .i64 a0_2):=(zAB BK730.out 2).trans rfl;have hcz27_3:w26.cell? ⟨gb730,3,none⟩=some (.slice (some ad738) l0_3.length c0_3):=(zAB BK730.out 3).trans rfl;have hfz27_0:=zAA BK730.out 0;have hfz27_1:=zAA BK730.out 1;have hfz27_2:=zAA BK730.out 2;have hfz27_3:=zAA BK730.out 3)|((with_reducible refine zAc (f:=50) rfl ?_);refine goesL_ (some 62) rfl rfl Tryd.func50 (by kernel_rfl) rfl #[.agg #[.string a0_0,.slice A0_1 l0_1.length c0_1,.int .i64 a0_2,.slice (some ad738) l0_3.length c0_3],.int .i64 x13_2] rfl aM_ ?_;(with_reducible refine (zAX.calls k2 a0_0 _ _ l0_1 a0_2 _ _ l0_3 x13_2 t750 _ ?side1 ?side2 ?side3 ?side4 A20.out).mono ?_);(case side1=>repeat (first|exact (Kd.C_below HR0_1.out HB.out)|(with_reducible refine Kd.C_alloc ?_ _)|(with_reducible refine Kd.C_drewN ?_ _)|(with_reducible refine Kd.C_drew ?_)));(case side2=>exact HC0_1.out);(case side3=>repeat (first|exact (Kd.C_below HR0_3.out HB.out)|(with_reducible refine Kd.C_alloc ?_ _)|(with_reducible refine Kd.C_drewN ?_ _)|(with_reducible refine Kd.C_drew ?_)));(case side4=>exact HC0_3.out);rintro e w28 ⟨rfl,hb⟩;refine ⟨_,rfl,?_⟩;have n0_:=aK_ (Kd.R_below (aR_ HO_7.out) hb);have n1_:=aK_ (Kd.R_below (aR_ HO_9.out) hb);have n2_:=aK_ (Kd.R_below (aR_ HO_11.out) hb);have n3_:=aK_ (Kd.R_below (aR_ HO746.out) hb);have n4_:=aK_ (Kd.R_below (aR_ HO749.out) hb);have n5_:=aK_ (zAY (g:=gb730) (o:=.cells #[.string a0_0,.slice A0_1 l0_1.length c0_1,.int .i64 a0_2,.slice (some ad738) l0_3.length c0_3] 25 (0,0)) (aB_ BK730.out) hb);have n6_:=aK_ (zAG (aI_ HB.out GE730.out) hb);clear HO_7;clear HO_9;clear HO_11;clear HO746;clear HO749;clear BK730;clear HB;have HO_7:=n0_;have HO_9:=n1_;have HO_11:=n2_;have HO746:=n3_;have HO749:=n4_;have BK730:=n5_;have HB:=n6_;clear n0_ n1_ n2_ n3_ n4_ n5_ n6_;(try clear hb);(try clear hb2);(try clear hk);(try clear hi)))
  go_roundg k2
  case measure=>have:=HK1.out;have:=HK2.out;omega
  case rel=>exact ⟨(y744),(y747),(wrap64 (t750 - 1)),(wrap64 (x14_2 - 1)),aS2_,aS2_,H',⟨by have:=HK1.out;have:=HK2.out;omega⟩,⟨aR_ HO_7.out⟩,⟨by refine aR_ ?_;exact Kd.R_mono HO_9.out (fun _ hk=>⟨hk.1.2,hk.2⟩)⟩,⟨by refine aR_ ?_;exact Kd.R_mono HO746.out (fun _ hk=>⟨hk.1.1,hk.2⟩)⟩,⟨by refine aR_ ?_;exact Kd.R_mono HO749.out (fun _ hk=>⟨hk.1,hk.2.2⟩)⟩,⟨aB_ BK730.out⟩,⟨aI_ HB.out GE730.out⟩⟩
 rw [if_neg c15] at H
 have c15b0:decide (0<x14_2)=false:=decide_eq_false c15
 clear c15
 have c29:=yes_ H
 rw [if_pos c29] at H
 have c29b0:decide (0≤x10_1)=true:=decide_eq_true c29
 clear c29
 have c30:=yes_ H
 rw [if_pos c30] at H
 have c30b0:decide (x10_1<(l0_3.length:Int))=true:=decide_eq_true c30
 clear c30
 replace H:=Option.bind_eq_some_iff.mp H
 obtain ⟨t752,A310,H⟩:=H
 replace H:(if t752=(-1) then (some (([]:List Int),x10_1,80)) else (if ((zAC l0_3 x10_1).f0)=8 then (if 0<(x12_2.length:Int) then (if 0≤(rd x12_2 0) then (if (rd x12_2 0)<(t733.length:Int) then (if (rdOf false t733 (rd x12_2 0)=true) then (if x9_1.length<17592186044416 then (zAP.l0 k2 t733 (x9_1 ++ [t752]) (wrap64 (x10_1+1)) a0_0 l0_1 a0_2 l0_3) else (none)) else (if 1<(x12_2.length:Int) then (if 0≤(rd x12_2 1) then (if (rd x12_2 1)<(t733.length:Int) then (if (rdOf false t733 (rd x12_2 1)=true) then (if x9_1.length<17592186044416 then (zAP.l0 k2 t733 (x9_1 ++ [t752]) (wrap64 (x10_1+1)) a0_0 l0_1 a0_2 l0_3) else (none)) else (some (([]:List Int),x10_1,81))) else (none)) else (none)) else (none))) else (none)) else (none)) else (none)) else (if x9_1.length<17592186044416 then (zAP.l0 k2 t733 (x9_1 ++ [t752]) (wrap64 (x10_1+1)) a0_0 l0_1 a0_2 l0_3) else (none))))=some (r1,r2,r3):=H
 have A31:=aK_ A310
 clear A310
 by_cases c32:t752=(-1)
 ·rw [if_pos c32] at H
  have c32b0:(t752 == (-1))=true:=beq_iff_eq.mpr c32
  have c32b1:(t752 != (-1))=false:=bne_eq_false_iff_eq.mpr c32
  clear c32
  simp only [Option.some.injEq,Prod.mk.injEq] at H
  obtain ⟨rfl,rfl,rfl⟩:=H
  have hcz33_0:wr.cell? ⟨gb730,0,none⟩=some (.string a0_0):=(zAB BK730.out 0).trans rfl
  have hcz33_1:wr.cell? ⟨gb730,1,none⟩=some (.slice A0_1 l0_1.length c0_1):=(zAB BK730.out 1).trans rfl
  have hcz33_2:wr.cell? ⟨gb730,2,none⟩=some (.int .i64 a0_2):=(zAB BK730.out 2).trans rfl
  have hcz33_3:wr.cell? ⟨gb730,3,none⟩=some (.slice (some ad738) l0_3.length c0_3):=(zAB BK730.out 3).trans rfl
  have hfz33_0:=zAA BK730.out 0
  have hfz33_1:=zAA BK730.out 1
  have hfz33_2:=zAA BK730.out 2
  have hfz33_3:=zAA BK730.out 3
  have p751:0≤(x10_1:Int):=aD_
  have q751:x10_1<(l0_3.length:Int):=aD_
  obtain ⟨ad751,A751_4,c751_4,e751,hx751_0,hx751_1,hx751_2,hx751_3,hx751_4,hx751_5,hl751_4,hi751_4⟩:=at_T33 HR0_3.out x10_1 p751 q751
  obtain rfl:ad738=ad751:=(by injection e751)
  replace hx751_0:=(HB.out.cell (World.block_lt_of_cell? w _ hx751_0)).trans hx751_0
  replace hx751_1:=(HB.out.cell (World.block_lt_of_cell? w _ hx751_1)).trans hx751_1
  replace hx751_2:=(HB.out.cell (World.block_lt_of_cell? w _ hx751_2)).trans hx751_2
  replace hx751_3:=(HB.out.cell (World.block_lt_of_cell? w _ hx751_3)).trans hx751_3
  replace hx751_4:=(HB.out.cell (World.block_lt_of_cell? w _ hx751_4)).trans hx751_4
  replace hx751_5:=(HB.out.cell (World.block_lt_of_cell? w _ hx751_5)).trans hx751_5
  have HR751_4:=aK_ hi751_4
  have HC751_4:=aK_ hl751_4
  clear hi751_4 hl751_4
  replace p751:=eq_true p751
  replace q751:=eq_true q751
  obtain ⟨Ao34,co34,eo34⟩:=Kd.R_slice HO_11.out
  subst eo34
  go_wp2_with (first|((with_reducible refine zAc (f:=54) rfl ?_);refine goesL_ (some 70) rfl rfl Tryd.func54 (by kernel_rfl) rfl #[.agg #[.int .i64 ((zAC l0_3 x10_1).f0),.int .i64 ((zAC l0_3 x10_1).f1),.int .i64 ((zAC l0_3 x10_1).f2),.int .i64 ((zAC l0_3 x10_1).f3),.slice A751_4 ((zAC l0_3 x10_1).f4).length c751_4,.int .i64 ((zAC l0_3 x10_1).f5)],.slice Ao34 x11_2.length co34] rfl aM_ ?_;(with_reducible refine (zAJ.calls k2 ((zAC l0_3 x10_1).f0) ((zAC l0_3 x10_1).f1) ((zAC l0_3 x10_1).f2) ((zAC l0_3 x10_1).f3) _ _ ((zAC l0_3 x10_1).f4) ((zAC l0_3 x10_1).f5) _ _ x11_2 t752 _ ?side1 ?side2 ?side3 ?side4 A31.out).mono ?_);(case side1=>repeat (first|exact (Kd.C_below HR751_4.out HB.out)|(with_reducible refine Kd.C_alloc ?_ _)|(with_reducible refine Kd.C_drewN ?_ _)|(with_reducible refine Kd.C_drew ?_)));(case side2=>exact HC751_4.out);(case side3=>repeat (first|exact (Kd.R_reads' HO_11.out).2.2|(with_reducible refine Kd.C_alloc ?_ _)|(with_reducible refine Kd.C_drewN ?_ _)|(with_reducible refine Kd.C_drew ?_)));(case side4=>exact (Kd.R_reads' HO_11.out).2.1);rintro e w35 ⟨rfl,hb⟩;refine ⟨_,rfl,?_⟩;have n0_:=aK_ (Kd.R_below (aR_ HO_7.out) hb);have n1_:=aK_ (Kd.R_below (aR_ HO_9.out) hb);have n2_:=aK_ (Kd.R_below (aR_ HO_11.out) hb);have n3_:=aK_ (Kd.R_below (aR_ HO_12.out) hb);have n4_:=aK_ (zAY (g:=gb730) (o:=.cells #[.string a0_0,.slice A0_1 l0_1.length c0_1,.int .i64 a0_2,.slice (some ad738) l0_3.length c0_3] 25 (0,0)) (aB_ BK730.out) hb);have n5_:=aK_ (zAG (aI_ HB.out GE730.out) hb);clear HO_7;clear HO_9;clear HO_11;clear HO_12;clear BK730;clear HB;have HO_7:=n0_;have HO_9:=n1_;have HO_11:=n2_;have HO_12:=n3_;have BK730:=n4_;have HB:=n5_;clear n0_ n1_ n2_ n3_ n4_ n5_;(try clear hb);(try clear hb2);(try clear hk);(try clear hi)))
  go_ret3
  exact ⟨_,by first|rfl|(simp [zAE,zAF] <;> rfl)|(simp [*,zAE,zAF] <;> rfl),by first|exact Kd.R_nil _ _ _ _ _|exact Kd.N_nil _ _ _ _ _|exact Kd.V_nil _ _ _ _ _|exact Kd.Q_nil _ _ _ _ _|exact Kd.S_nil _ _ _ _ _,aI_ HB.out GE730.out⟩
 rw [if_neg c32] at H
 have c32b0:(t752 == (-1))=false:=beq_eq_false_iff_ne.mpr c32
 have c32b1:(t752 != (-1))=true:=bne_iff_ne.mpr c32
 by_cases c36:((zAC l0_3 x10_1).f0)=8
 rotate_left
 ·rw [if_neg c36] at H
  have c36b0:(((zAC l0_3 x10_1).f0) == 8)=false:=beq_eq_false_iff_ne.mpr c36
  have c36b1:(((zAC l0_3 x10_1).f0) != 8)=true:=bne_iff_ne.mpr c36
  have c69:=yes_ H
  rw [if_pos c69] at H
  have LMc69:=aK_ c69
  clear c69
  obtain ⟨y764,hy764⟩:∃ y_:List Int,y_=(x9_1 ++ [t752]):=⟨_,rfl⟩
  replace H:(zAP.l0 k2 t733 y764 (wrap64 (x10_1+1)) a0_0 l0_1 a0_2 l0_3)=some (r1,r2,r3):=by first|(rw [hy764];with_reducible exact H)|(have H2_:=(Option.bind_some _ _).symm.trans H;rw [hy764];with_reducible exact H2_)|(have H2_:=(Option.bind_some _ _).symm.trans H;with_reducible exact H2_)|with_reducible exact H|(rw [hy764];exact H)|exact H
  have Ny764:=aK_ hy764
  clear hy764
  have H':=aK_ H
  clear H
  have hcz70_0:wr.cell? ⟨gb730,0,none⟩=some (.string a0_0):=(zAB BK730.out 0).trans rfl
  have hcz70_1:wr.cell? ⟨gb730,1,none⟩=some (.slice A0_1 l0_1.length c0_1):=(zAB BK730.out 1).trans rfl
  have hcz70_2:wr.cell? ⟨gb730,2,none⟩=some (.int .i64 a0_2):=(zAB BK730.out 2).trans rfl
  have hcz70_3:wr.cell? ⟨gb730,3,none⟩=some (.slice (some ad738) l0_3.length c0_3):=(zAB BK730.out 3).trans rfl
  have hfz70_0:=zAA BK730.out 0
  have hfz70_1:=zAA BK730.out 1
  have hfz70_2:=zAA BK730.out 2
  have hfz70_3:=zAA BK730.out 3
  have p751:0≤(x10_1:Int):=aD_
  have q751:x10_1<(l0_3.length:Int):=aD_
  obtain ⟨ad751,A751_4,c751_4,e751,hx751_0,hx751_1,hx751_2,hx751_3,hx751_4,hx751_5,hl751_4,hi751_4⟩:=at_T33 HR0_3.out x10_1 p751 q751
  obtain rfl:ad738=ad751:=(by injection e751)
  replace hx751_0:=(HB.out.cell (World.block_lt_of_cell? w _ hx751_0)).trans hx751_0
  replace hx751_1:=(HB.out.cell (World.block_lt_of_cell? w _ hx751_1)).trans hx751_1
  replace hx751_2:=(HB.out.cell (World.block_lt_of_cell? w _ hx751_2)).trans hx751_2
  replace hx751_3:=(HB.out.cell (World.block_lt_of_cell? w _ hx751_3)).trans hx751_3
  replace hx751_4:=(HB.out.cell (World.block_lt_of_cell? w _ hx751_4)).trans hx751_4
  replace hx751_5:=(HB.out.cell (World.block_lt_of_cell? w _ hx751_5)).trans hx751_5
  have HR751_4:=aK_ hi751_4
  have HC751_4:=aK_ hl751_4
  clear hi751_4 hl751_4
  replace p751:=eq_true p751
  replace q751:=eq_true q751
  obtain ⟨Ao71,co71,eo71⟩:=Kd.R_slice HO_11.out
  subst eo71
  go_wp2_with (first|((with_reducible refine zAc (f:=54) rfl ?_);refine goesL_ (some 70) rfl rfl Tryd.func54 (by kernel_rfl) rfl #[.agg #[.int .i64 ((zAC l0_3 x10_1).f0),.int .i64 ((zAC l0_3 x10_1).f1),.int .i64 ((zAC l0_3 x10_1).f2),.int .i64 ((zAC l0_3 x10_1).f3),.slice A751_4 ((zAC l0_3 x10_1).f4).length c751_4,.int .i64 ((zAC l0_3 x10_1).f5)],.slice Ao71 x11_2.length co71] rfl aM_ ?_;(with_reducible refine (zAJ.calls k2 ((zAC l0_3 x10_1).f0) ((zAC l0_3 x10_1).f1) ((zAC l0_3 x10_1).f2) ((zAC l0_3 x10_1).f3) _ _ ((zAC l0_3 x10_1).f4) ((zAC l0_3 x10_1).f5) _ _ x11_2 t752 _ ?side1 ?side2 ?side3 ?side4 A31.out).mono ?_);(case side1=>repeat (first|exact (Kd.C_below HR751_4.out HB.out)|(with_reducible refine Kd.C_alloc ?_ _)|(with_reducible refine Kd.C_drewN ?_ _)|(with_reducible refine Kd.C_drew ?_)));(case side2=>exact HC751_4.out);(case side3=>repeat (first|exact (Kd.R_reads' HO_11.out).2.2|(with_reducible refine Kd.C_alloc ?_ _)|(with_reducible refine Kd.C_drewN ?_ _)|(with_reducible refine Kd.C_drew ?_)));(case side4=>exact (Kd.R_reads' HO_11.out).2.1);rintro e w72 ⟨rfl,hb⟩;refine ⟨_,rfl,?_⟩;have n0_:=aK_ (Kd.R_below (aR_ HO_7.out) hb);have n1_:=aK_ (Kd.R_below (aR_ HO_9.out) hb);have n2_:=aK_ (Kd.R_below (aR_ HO_11.out) hb);have n3_:=aK_ (Kd.R_below (aR_ HO_12.out) hb);have n4_:=aK_ (zAY (g:=gb730) (o:=.cells #[.string a0_0,.slice A0_1 l0_1.length c0_1,.int .i64 a0_2,.slice (some ad738) l0_3.length c0_3] 25 (0,0)) (aB_ BK730.out) hb);have n5_:=aK_ (zAG (aI_ HB.out GE730.out) hb);clear HO_7;clear HO_9;clear HO_11;clear HO_12;clear BK730;clear HB;have HO_7:=n0_;have HO_9:=n1_;have HO_11:=n2_;have HO_12:=n3_;have BK730:=n4_;have HB:=n5_;clear n0_ n1_ n2_ n3_ n4_ n5_;(try clear hb);(try clear hb2);(try clear hk);(try clear hi);have hcz73_0:w72.cell? ⟨gb730,0,none⟩=some (.string a0_0):=(zAB BK730.out 0).trans rfl;have hcz73_1:w72.cell? ⟨gb730,1,none⟩=some (.slice A0_1 l0_1.length c0_1):=(zAB BK730.out 1).trans rfl;have hcz73_2:w72.cell? ⟨gb730,2,none⟩=some (.int .i64 a0_2):=(zAB BK730.out 2).trans rfl;have hcz73_3:w72.cell? ⟨gb730,3,none⟩=some (.slice (some ad738) l0_3.length c0_3):=(zAB BK730.out 3).trans rfl;have hfz73_0:=zAA BK730.out 0;have hfz73_1:=zAA BK730.out 1;have hfz73_2:=zAA BK730.out 2;have hfz73_3:=zAA BK730.out 3;have p753:0≤(x10_1:Int):=aD_;have q753:x10_1<(l0_3.length:Int):=aD_;obtain ⟨ad753,A753_4,c753_4,e753,hx753_0,hx753_1,hx753_2,hx753_3,hx753_4,hx753_5,hl753_4,hi753_4⟩:=at_T33 HR0_3.out x10_1 p753 q753;obtain rfl:ad738=ad753:=(by injection e753);replace hx753_0:=(HB.out.cell (World.block_lt_of_cell? w _ hx753_0)).trans hx753_0;replace hx753_1:=(HB.out.cell (World.block_lt_of_cell? w _ hx753_1)).trans hx753_1;replace hx753_2:=(HB.out.cell (World.block_lt_of_cell? w _ hx753_2)).trans hx753_2;replace hx753_3:=(HB.out.cell (World.block_lt_of_cell? w _ hx753_3)).trans hx753_3;replace hx753_4:=(HB.out.cell (World.block_lt_of_cell? w _ hx753_4)).trans hx753_4;replace hx753_5:=(HB.out.cell (World.block_lt_of_cell? w _ hx753_5)).trans hx753_5;have HR753_4:=aK_ hi753_4;have HC753_4:=aK_ hl753_4;clear hi753_4 hl753_4;replace p753:=eq_true p753;replace q753:=eq_true q753)|((with_reducible refine gate_builtin (b:=.append) (xs:=#[.tmp 100,.tmp 102]) rfl ?_);at_builtin;refine Kd.R_append (Kd.int .i64) (w0:=w) w.heap.size rfl (.tmp 100) (.tmp 102) 36 3 (.int .i64 0) 8 rfl Tryd.underlying36 info3 rfl (by decide) (by omega) u9 x9_1 t752 [.int .i64 t752] (fun k_=>some k_≠(.slice Ao71 x11_2.length co71:Value).ownBlock∧some k_≠(u12:Value).ownBlock) (fun _=>False) rfl rfl ?aP (fun _ hk=>hk.elim) ?aF ?aO ?aB ?aS ?aL ?_;(case aP=>exact rfl);(case aB=>exact (aI_ HB.out GE730.out));(case aF=>exact (fun k_ hk=>⟨Kd.fresh' (Kd.R_lt (aR_ HO_11.out)) k_ hk,Kd.fresh' (Kd.R_lt (aR_ HO_12.out)) k_ hk⟩));(case aO=>exact (aR_ HO_9.out));(case aS=>exact (zAD (aI_ HB.out GE730.out)));(case aL=>have:=LMc69.out;omega);intro v765 w74 ho hb hg hat;rw [← Ny764.out] at ho;have n0_:=aK_ (Kd.R_over' (aR_ HO_7.out) (Kd.R_typed (aR_ HO_9.out)) (by decide) hg);have n1_:=aK_ (Kd.R_after (ok:=(fun k_=>some k_≠(u12:Value).ownBlock)) (by refine aR_ ?_;exact Kd.R_mono HO_11.out (fun _ hk=>⟨hk.2,hk.1⟩)) hg hat);have n2_:=aK_ (Kd.R_after (ok:=(fun k_=>some k_≠(.slice Ao71 x11_2.length co71:Value).ownBlock)) (by refine aR_ ?_;exact Kd.R_mono HO_12.out (fun _ hk=>⟨hk.2,hk.1⟩)) hg hat);have n3_:=aK_ (blk_grown (g:=gb730) (o:=.cells #[.string a0_0,.slice A0_1 l0_1.length c0_1,.int .i64 a0_2,.slice (some ad738) l0_3.length c0_3] 25 (0,0)) (aB_ BK730.out) hg (Kd.R_ne HO_9.out BK730.out (by decide)));have n4_:=aK_ (hb);have n5_:=aK_ (ho);clear HO_7;clear HO_11;clear HO_12;clear BK730;clear HB;clear HO_9;have HO_7:=n0_;have HO_11:=n1_;have HO_12:=n2_;have BK730:=n3_;have HB:=n4_;have HO766:=n5_;clear n0_ n1_ n2_ n3_ n4_ n5_;clear ho hb hg hat))
  go_roundg k2
  case measure=>have:=HK1.out;have:=HK2.out;omega
  case rel=>exact ⟨(y764),(wrap64 (x10_1+1)),aS2_,H',⟨by have:=HK1.out;have:=HK2.out;omega⟩,⟨aR_ HO_7.out⟩,⟨by refine aR_ ?_;exact Kd.R_mono HO766.out (fun _ hk=>trivial)⟩,⟨aB_ BK730.out⟩,⟨aI_ HB.out GE730.out⟩⟩
 rw [if_pos c36] at H
 have c36b0:(((zAC l0_3 x10_1).f0) == 8)=true:=beq_iff_eq.mpr c36
 have c36b1:(((zAC l0_3 x10_1).f0) != 8)=false:=bne_eq_false_iff_eq.mpr c36
 clear c36
 have c37:=yes_ H
 rw [if_pos c37] at H
 have c37b0:decide (0<(x12_2.length:Int))=true:=decide_eq_true c37
 have c37b1:decide (0<x12_2.length)=true:=decide_eq_true (by omega)
 clear c37
 have c38:=yes_ H
 rw [if_pos c38] at H
 have c38b0:decide (0≤(rd x12_2 0))=true:=decide_eq_true c38
 clear c38
 have c39:=yes_ H
 rw [if_pos c39] at H
 have c39b0:decide ((rd x12_2 0)<(t733.length:Int))=true:=decide_eq_true c39
 (try (have c39z0:=c39b0;simp only [hl738_4] at c39z0))
 (try (have c39z1:=c39b0;simp only [hl751_4] at c39z1))
 (try (have c39z2:=c39b0;simp only [hl753_4] at c39z2))
 clear c39
 obtain ⟨bq40,hbq40⟩:∃ b_:Bool,b_=(rdOf false t733 (rd x12_2 0)):=⟨_,rfl⟩
 replace H:(if (bq40=true) then (if x9_1.length<17592186044416 then (zAP.l0 k2 t733 (x9_1 ++ [t752]) (wrap64 (x10_1+1)) a0_0 l0_1 a0_2 l0_3) else (none)) else (if 1<(x12_2.length:Int) then (if 0≤(rd x12_2 1) then (if (rd x12_2 1)<(t733.length:Int) then (if (rdOf false t733 (rd x12_2 1)=true) then (if x9_1.length<17592186044416 then (zAP.l0 k2 t733 (x9_1 ++ [t752]) (wrap64 (x10_1+1)) a0_0 l0_1 a0_2 l0_3) else (none)) else (some (([]:List Int),x10_1,81))) else (none)) else (none)) else (none)))=some (r1,r2,r3):=by rw [← hbq40] at H;exact H
 have Nbq40:=aK_ hbq40
 clear hbq40
 by_cases c41:(bq40=true)
 ·subst c41
  have H1:(if x9_1.length<17592186044416 then (zAP.l0 k2 t733 (x9_1 ++ [t752]) (wrap64 (x10_1+1)) a0_0 l0_1 a0_2 l0_3) else (none))=some (r1,r2,r3):=by rw [if_pos rfl] at H;exact H
  clear H
  have H:=H1
  clear H1
  have c42:=yes_ H
  rw [if_pos c42] at H
  have LMc42:=aK_ c42
  clear c42
  obtain ⟨y756,hy756⟩:∃ y_:List Int,y_=(x9_1 ++ [t752]):=⟨_,rfl⟩
  replace H:(zAP.l0 k2 t733 y756 (wrap64 (x10_1+1)) a0_0 l0_1 a0_2 l0_3)=some (r1,r2,r3):=by first|(rw [hy756];with_reducible exact H)|(have H2_:=(Option.bind_some _ _).symm.trans H;rw [hy756];with_reducible exact H2_)|(have H2_:=(Option.bind_some _ _).symm.trans H;with_reducible exact H2_)|with_reducible exact H|(rw [hy756];exact H)|exact H
  have Ny756:=aK_ hy756
  clear hy756
  have H':=aK_ H
  clear H
  have hcz43_0:wr.cell? ⟨gb730,0,none⟩=some (.string a0_0):=(zAB BK730.out 0).trans rfl
  have hcz43_1:wr.cell? ⟨gb730,1,none⟩=some (.slice A0_1 l0_1.length c0_1):=(zAB BK730.out 1).trans rfl
  have hcz43_2:wr.cell? ⟨gb730,2,none⟩=some (.int .i64 a0_2):=(zAB BK730.out 2).trans rfl
  have hcz43_3:wr.cell? ⟨gb730,3,none⟩=some (.slice (some ad738) l0_3.length c0_3):=(zAB BK730.out 3).trans rfl
  have hfz43_0:=zAA BK730.out 0
  have hfz43_1:=zAA BK730.out 1
  have hfz43_2:=zAA BK730.out 2
  have hfz43_3:=zAA BK730.out 3
  have p751:0≤(x10_1:Int):=aD_
  have q751:x10_1<(l0_3.length:Int):=aD_
  obtain ⟨ad751,A751_4,c751_4,e751,hx751_0,hx751_1,hx751_2,hx751_3,hx751_4,hx751_5,hl751_4,hi751_4⟩:=at_T33 HR0_3.out x10_1 p751 q751
  obtain rfl:ad738=ad751:=(by injection e751)
  replace hx751_0:=(HB.out.cell (World.block_lt_of_cell? w _ hx751_0)).trans hx751_0
  replace hx751_1:=(HB.out.cell (World.block_lt_of_cell? w _ hx751_1)).trans hx751_1
  replace hx751_2:=(HB.out.cell (World.block_lt_of_cell? w _ hx751_2)).trans hx751_2
  replace hx751_3:=(HB.out.cell (World.block_lt_of_cell? w _ hx751_3)).trans hx751_3
  replace hx751_4:=(HB.out.cell (World.block_lt_of_cell? w _ hx751_4)).trans hx751_4
  replace hx751_5:=(HB.out.cell (World.block_lt_of_cell? w _ hx751_5)).trans hx751_5
  have HR751_4:=aK_ hi751_4
  have HC751_4:=aK_ hl751_4
  clear hi751_4 hl751_4
  replace p751:=eq_true p751
  replace q751:=eq_true q751
  obtain ⟨Ao44,co44,eo44⟩:=Kd.R_slice HO_11.out
  subst eo44
  go_wp2_with (first|((with_reducible refine zAc (f:=54) rfl ?_);refine goesL_ (some 70) rfl rfl Tryd.func54 (by kernel_rfl) rfl #[.agg #[.int .i64 ((zAC l0_3 x10_1).f0),.int .i64 ((zAC l0_3 x10_1).f1),.int .i64 ((zAC l0_3 x10_1).f2),.int .i64 ((zAC l0_3 x10_1).f3),.slice A751_4 ((zAC l0_3 x10_1).f4).length c751_4,.int .i64 ((zAC l0_3 x10_1).f5)],.slice Ao44 x11_2.length co44] rfl aM_ ?_;(with_reducible refine (zAJ.calls k2 ((zAC l0_3 x10_1).f0) ((zAC l0_3 x10_1).f1) ((zAC l0_3 x10_1).f2) ((zAC l0_3 x10_1).f3) _ _ ((zAC l0_3 x10_1).f4) ((zAC l0_3 x10_1).f5) _ _ x11_2 t752 _ ?side1 ?side2 ?side3 ?side4 A31.out).mono ?_);(case side1=>repeat (first|exact (Kd.C_below HR751_4.out HB.out)|(with_reducible refine Kd.C_alloc ?_ _)|(with_reducible refine Kd.C_drewN ?_ _)|(with_reducible refine Kd.C_drew ?_)));(case side2=>exact HC751_4.out);(case side3=>repeat (first|exact (Kd.R_reads' HO_11.out).2.2|(with_reducible refine Kd.C_alloc ?_ _)|(with_reducible refine Kd.C_drewN ?_ _)|(with_reducible refine Kd.C_drew ?_)));(case side4=>exact (Kd.R_reads' HO_11.out).2.1);rintro e w45 ⟨rfl,hb⟩;refine ⟨_,rfl,?_⟩;have n0_:=aK_ (Kd.R_below (aR_ HO_7.out) hb);have n1_:=aK_ (Kd.R_below (aR_ HO_9.out) hb);have n2_:=aK_ (Kd.R_below (aR_ HO_11.out) hb);have n3_:=aK_ (Kd.R_below (aR_ HO_12.out) hb);have n4_:=aK_ (zAY (g:=gb730) (o:=.cells #[.string a0_0,.slice A0_1 l0_1.length c0_1,.int .i64 a0_2,.slice (some ad738) l0_3.length c0_3] 25 (0,0)) (aB_ BK730.out) hb);have n5_:=aK_ (zAG (aI_ HB.out GE730.out) hb);clear HO_7;clear HO_9;clear HO_11;clear HO_12;clear BK730;clear HB;have HO_7:=n0_;have HO_9:=n1_;have HO_11:=n2_;have HO_12:=n3_;have BK730:=n4_;have HB:=n5_;clear n0_ n1_ n2_ n3_ n4_ n5_;(try clear hb);(try clear hb2);(try clear hk);(try clear hi);have hcz46_0:w45.cell? ⟨gb730,0,none⟩=some (.string a0_0):=(zAB BK730.out 0).trans rfl;have hcz46_1:w45.cell? ⟨gb730,1,none⟩=some (.slice A0_1 l0_1.length c0_1):=(zAB BK730.out 1).trans rfl;have hcz46_2:w45.cell? ⟨gb730,2,none⟩=some (.int .i64 a0_2):=(zAB BK730.out 2).trans rfl;have hcz46_3:w45.cell? ⟨gb730,3,none⟩=some (.slice (some ad738) l0_3.length c0_3):=(zAB BK730.out 3).trans rfl;have hfz46_0:=zAA BK730.out 0;have hfz46_1:=zAA BK730.out 1;have hfz46_2:=zAA BK730.out 2;have hfz46_3:=zAA BK730.out 3;have p753:0≤(x10_1:Int):=aD_;have q753:x10_1<(l0_3.length:Int):=aD_;obtain ⟨ad753,A753_4,c753_4,e753,hx753_0,hx753_1,hx753_2,hx753_3,hx753_4,hx753_5,hl753_4,hi753_4⟩:=at_T33 HR0_3.out x10_1 p753 q753;obtain rfl:ad738=ad753:=(by injection e753);replace hx753_0:=(HB.out.cell (World.block_lt_of_cell? w _ hx753_0)).trans hx753_0;replace hx753_1:=(HB.out.cell (World.block_lt_of_cell? w _ hx753_1)).trans hx753_1;replace hx753_2:=(HB.out.cell (World.block_lt_of_cell? w _ hx753_2)).trans hx753_2;replace hx753_3:=(HB.out.cell (World.block_lt_of_cell? w _ hx753_3)).trans hx753_3;replace hx753_4:=(HB.out.cell (World.block_lt_of_cell? w _ hx753_4)).trans hx753_4;replace hx753_5:=(HB.out.cell (World.block_lt_of_cell? w _ hx753_5)).trans hx753_5;have HR753_4:=aK_ hi753_4;have HC753_4:=aK_ hl753_4;clear hi753_4 hl753_4;replace p753:=eq_true p753;replace q753:=eq_true q753;obtain ⟨Ao47,co47,eo47⟩:=Kd.R_slice HO_12.out;subst eo47;have p754:0≤(0:Int):=(by omega);have q754:0<(x12_2.length:Int):=aD_;obtain ⟨ad754,e754,hx754_0⟩:=Kd.at_int (Kd.R_reads' HO_12.out).2.2 0 p754 q754;cases e754;have qi754:(0<x12_2.length)=True:=eq_true (by omega);(try rw [show ((0:Int)).toNat=0 from rfl] at hx754_0);(try rw [Addr.add_zero'] at hx754_0);replace p754:=eq_true p754;replace q754:=eq_true q754;obtain ⟨Ao48,co48,eo48⟩:=Kd.R_slice HO_7.out;subst eo48;have p755:0≤((rd x12_2 0):Int):=aD_;have q755:(rd x12_2 0)<(t733.length:Int):=aD_;obtain ⟨ad755,e755,hx755_0⟩:=Kd.at_bool (Kd.R_reads' HO_7.out).2.2 (rd x12_2 0) p755 q755;(try rw [← Nbq40.out] at hx755_0);cases e755;replace p755:=eq_true p755;replace q755:=eq_true q755)|((with_reducible refine gate_builtin (b:=.append) (xs:=#[.tmp 100,.tmp 102]) rfl ?_);at_builtin;refine Kd.R_append (Kd.int .i64) (w0:=w) w.heap.size rfl (.tmp 100) (.tmp 102) 36 3 (.int .i64 0) 8 rfl Tryd.underlying36 info3 rfl (by decide) (by omega) u9 x9_1 t752 [.int .i64 t752] (fun k_=>some k_≠(.slice Ao44 x11_2.length co44:Value).ownBlock∧some k_≠(.slice (some ad754) x12_2.length co47:Value).ownBlock) (fun _=>False) rfl rfl ?aP (fun _ hk=>hk.elim) ?aF ?aO ?aB ?aS ?aL ?_;(case aP=>exact rfl);(case aB=>exact (aI_ HB.out GE730.out));(case aF=>exact (fun k_ hk=>⟨Kd.fresh' (Kd.R_lt (aR_ HO_11.out)) k_ hk,Kd.fresh' (Kd.R_lt (aR_ HO_12.out)) k_ hk⟩));(case aO=>exact (aR_ HO_9.out));(case aS=>exact (zAD (aI_ HB.out GE730.out)));(case aL=>have:=LMc42.out;omega);intro v757 w49 ho hb hg hat;rw [← Ny756.out] at ho;have n0_:=aK_ (Kd.R_over' (aR_ HO_7.out) (Kd.R_typed (aR_ HO_9.out)) (by decide) hg);have n1_:=aK_ (Kd.R_after (ok:=(fun k_=>some k_≠(.slice (some ad754) x12_2.length co47:Value).ownBlock)) (by refine aR_ ?_;exact Kd.R_mono HO_11.out (fun _ hk=>⟨hk.2,hk.1⟩)) hg hat);have n2_:=aK_ (Kd.R_after (ok:=(fun k_=>some k_≠(.slice Ao44 x11_2.length co44:Value).ownBlock)) (by refine aR_ ?_;exact Kd.R_mono HO_12.out (fun _ hk=>⟨hk.2,hk.1⟩)) hg hat);have n3_:=aK_ (blk_grown (g:=gb730) (o:=.cells #[.string a0_0,.slice A0_1 l0_1.length c0_1,.int .i64 a0_2,.slice (some ad738) l0_3.length c0_3] 25 (0,0)) (aB_ BK730.out) hg (Kd.R_ne HO_9.out BK730.out (by decide)));have n4_:=aK_ (hb);have n5_:=aK_ (ho);clear HO_7;clear HO_11;clear HO_12;clear BK730;clear HB;clear HO_9;have HO_7:=n0_;have HO_11:=n1_;have HO_12:=n2_;have BK730:=n3_;have HB:=n4_;have HO758:=n5_;clear n0_ n1_ n2_ n3_ n4_ n5_;clear ho hb hg hat))
  go_roundg k2
  case measure=>have:=HK1.out;have:=HK2.out;omega
  case rel=>exact ⟨(y756),(wrap64 (x10_1+1)),aS2_,H',⟨by have:=HK1.out;have:=HK2.out;omega⟩,⟨aR_ HO_7.out⟩,⟨by refine aR_ ?_;exact Kd.R_mono HO758.out (fun _ hk=>trivial)⟩,⟨aB_ BK730.out⟩,⟨aI_ HB.out GE730.out⟩⟩
 replace c41:=Bool.eq_false_iff.mpr c41
 subst c41
 have H1:(if 1<(x12_2.length:Int) then (if 0≤(rd x12_2 1) then (if (rd x12_2 1)<(t733.length:Int) then (if (rdOf false t733 (rd x12_2 1)=true) then (if x9_1.length<17592186044416 then (zAP.l0 k2 t733 (x9_1 ++ [t752]) (wrap64 (x10_1+1)) a0_0 l0_1 a0_2 l0_3) else (none)) else (some (([]:List Int),x10_1,81))) else (none)) else (none)) else (none))=some (r1,r2,r3):=by rw [if_neg (show ¬ (false=true) by decide)] at H;exact H
 clear H
 have H:=H1
 clear H1
 have c50:=yes_ H
 rw [if_pos c50] at H
 have c50b0:decide (1<(x12_2.length:Int))=true:=decide_eq_true c50
 have c50b1:decide (1<x12_2.length)=true:=decide_eq_true (by omega)
 clear c50
 have c51:=yes_ H
 rw [if_pos c51] at H
 have c51b0:decide (0≤(rd x12_2 1))=true:=decide_eq_true c51
 clear c51
 have c52:=yes_ H
 rw [if_pos c52] at H
 have c52b0:decide ((rd x12_2 1)<(t733.length:Int))=true:=decide_eq_true c52
 (try (have c52z0:=c52b0;simp only [hl738_4] at c52z0))
 (try (have c52z1:=c52b0;simp only [hl751_4] at c52z1))
 (try (have c52z2:=c52b0;simp only [hl753_4] at c52z2))
 clear c52
 obtain ⟨bq53,hbq53⟩:∃ b_:Bool,b_=(rdOf false t733 (rd x12_2 1)):=⟨_,rfl⟩
 replace H:(if (bq53=true) then (if x9_1.length<17592186044416 then (zAP.l0 k2 t733 (x9_1 ++ [t752]) (wrap64 (x10_1+1)) a0_0 l0_1 a0_2 l0_3) else (none)) else (some (([]:List Int),x10_1,81)))=some (r1,r2,r3):=by rw [← hbq53] at H;exact H
 have Nbq53:=aK_ hbq53
 clear hbq53
 by_cases c54:(bq53=true)
 rotate_left
 ·replace c54:=Bool.eq_false_iff.mpr c54
  subst c54
  have H1:(some (([]:List Int),x10_1,81))=some (r1,r2,r3):=by rw [if_neg (show ¬ (false=true) by decide)] at H;exact H
  clear H
  have H:=H1
  clear H1
  simp only [Option.some.injEq,Prod.mk.injEq] at H
  obtain ⟨rfl,rfl,rfl⟩:=H
  have hcz63_0:wr.cell? ⟨gb730,0,none⟩=some (.string a0_0):=(zAB BK730.out 0).trans rfl
  have hcz63_1:wr.cell? ⟨gb730,1,none⟩=some (.slice A0_1 l0_1.length c0_1):=(zAB BK730.out 1).trans rfl
  have hcz63_2:wr.cell? ⟨gb730,2,none⟩=some (.int .i64 a0_2):=(zAB BK730.out 2).trans rfl
  have hcz63_3:wr.cell? ⟨gb730,3,none⟩=some (.slice (some ad738) l0_3.length c0_3):=(zAB BK730.out 3).trans rfl
  have hfz63_0:=zAA BK730.out 0
  have hfz63_1:=zAA BK730.out 1
  have hfz63_2:=zAA BK730.out 2
  have hfz63_3:=zAA BK730.out 3
  have p751:0≤(x10_1:Int):=aD_
  have q751:x10_1<(l0_3.length:Int):=aD_
  obtain ⟨ad751,A751_4,c751_4,e751,hx751_0,hx751_1,hx751_2,hx751_3,hx751_4,hx751_5,hl751_4,hi751_4⟩:=at_T33 HR0_3.out x10_1 p751 q751
  obtain rfl:ad738=ad751:=(by injection e751)
  replace hx751_0:=(HB.out.cell (World.block_lt_of_cell? w _ hx751_0)).trans hx751_0
  replace hx751_1:=(HB.out.cell (World.block_lt_of_cell? w _ hx751_1)).trans hx751_1
  replace hx751_2:=(HB.out.cell (World.block_lt_of_cell? w _ hx751_2)).trans hx751_2
  replace hx751_3:=(HB.out.cell (World.block_lt_of_cell? w _ hx751_3)).trans hx751_3
  replace hx751_4:=(HB.out.cell (World.block_lt_of_cell? w _ hx751_4)).trans hx751_4
  replace hx751_5:=(HB.out.cell (World.block_lt_of_cell? w _ hx751_5)).trans hx751_5
  have HR751_4:=aK_ hi751_4
  have HC751_4:=aK_ hl751_4
  clear hi751_4 hl751_4
  replace p751:=eq_true p751
  replace q751:=eq_true q751
  obtain ⟨Ao64,co64,eo64⟩:=Kd.R_slice HO_11.out
  subst eo64
  go_wp2_with (first|((with_reducible refine zAc (f:=54) rfl ?_);refine goesL_ (some 70) rfl rfl Tryd.func54 (by kernel_rfl) rfl #[.agg #[.int .i64 ((zAC l0_3 x10_1).f0),.int .i64 ((zAC l0_3 x10_1).f1),.int .i64 ((zAC l0_3 x10_1).f2),.int .i64 ((zAC l0_3 x10_1).f3),.slice A751_4 ((zAC l0_3 x10_1).f4).length c751_4,.int .i64 ((zAC l0_3 x10_1).f5)],.slice Ao64 x11_2.length co64] rfl aM_ ?_;(with_reducible refine (zAJ.calls k2 ((zAC l0_3 x10_1).f0) ((zAC l0_3 x10_1).f1) ((zAC l0_3 x10_1).f2) ((zAC l0_3 x10_1).f3) _ _ ((zAC l0_3 x10_1).f4) ((zAC l0_3 x10_1).f5) _ _ x11_2 t752 _ ?side1 ?side2 ?side3 ?side4 A31.out).mono ?_);(case side1=>repeat (first|exact (Kd.C_below HR751_4.out HB.out)|(with_reducible refine Kd.C_alloc ?_ _)|(with_reducible refine Kd.C_drewN ?_ _)|(with_reducible refine Kd.C_drew ?_)));(case side2=>exact HC751_4.out);(case side3=>repeat (first|exact (Kd.R_reads' HO_11.out).2.2|(with_reducible refine Kd.C_alloc ?_ _)|(with_reducible refine Kd.C_drewN ?_ _)|(with_reducible refine Kd.C_drew ?_)));(case side4=>exact (Kd.R_reads' HO_11.out).2.1);rintro e w65 ⟨rfl,hb⟩;refine ⟨_,rfl,?_⟩;have n0_:=aK_ (Kd.R_below (aR_ HO_7.out) hb);have n1_:=aK_ (Kd.R_below (aR_ HO_9.out) hb);have n2_:=aK_ (Kd.R_below (aR_ HO_11.out) hb);have n3_:=aK_ (Kd.R_below (aR_ HO_12.out) hb);have n4_:=aK_ (zAY (g:=gb730) (o:=.cells #[.string a0_0,.slice A0_1 l0_1.length c0_1,.int .i64 a0_2,.slice (some ad738) l0_3.length c0_3] 25 (0,0)) (aB_ BK730.out) hb);have n5_:=aK_ (zAG (aI_ HB.out GE730.out) hb);clear HO_7;clear HO_9;clear HO_11;clear HO_12;clear BK730;clear HB;have HO_7:=n0_;have HO_9:=n1_;have HO_11:=n2_;have HO_12:=n3_;have BK730:=n4_;have HB:=n5_;clear n0_ n1_ n2_ n3_ n4_ n5_;(try clear hb);(try clear hb2);(try clear hk);(try clear hi);have hcz66_0:w65.cell? ⟨gb730,0,none⟩=some (.string a0_0):=(zAB BK730.out 0).trans rfl;have hcz66_1:w65.cell? ⟨gb730,1,none⟩=some (.slice A0_1 l0_1.length c0_1):=(zAB BK730.out 1).trans rfl;have hcz66_2:w65.cell? ⟨gb730,2,none⟩=some (.int .i64 a0_2):=(zAB BK730.out 2).trans rfl;have hcz66_3:w65.cell? ⟨gb730,3,none⟩=some (.slice (some ad738) l0_3.length c0_3):=(zAB BK730.out 3).trans rfl;have hfz66_0:=zAA BK730.out 0;have hfz66_1:=zAA BK730.out 1;have hfz66_2:=zAA BK730.out 2;have hfz66_3:=zAA BK730.out 3;have p753:0≤(x10_1:Int):=aD_;have q753:x10_1<(l0_3.length:Int):=aD_;obtain ⟨ad753,A753_4,c753_4,e753,hx753_0,hx753_1,hx753_2,hx753_3,hx753_4,hx753_5,hl753_4,hi753_4⟩:=at_T33 HR0_3.out x10_1 p753 q753;obtain rfl:ad738=ad753:=(by injection e753);replace hx753_0:=(HB.out.cell (World.block_lt_of_cell? w _ hx753_0)).trans hx753_0;replace hx753_1:=(HB.out.cell (World.block_lt_of_cell? w _ hx753_1)).trans hx753_1;replace hx753_2:=(HB.out.cell (World.block_lt_of_cell? w _ hx753_2)).trans hx753_2;replace hx753_3:=(HB.out.cell (World.block_lt_of_cell? w _ hx753_3)).trans hx753_3;replace hx753_4:=(HB.out.cell (World.block_lt_of_cell? w _ hx753_4)).trans hx753_4;replace hx753_5:=(HB.out.cell (World.block_lt_of_cell? w _ hx753_5)).trans hx753_5;have HR753_4:=aK_ hi753_4;have HC753_4:=aK_ hl753_4;clear hi753_4 hl753_4;replace p753:=eq_true p753;replace q753:=eq_true q753;obtain ⟨Ao67,co67,eo67⟩:=Kd.R_slice HO_12.out;subst eo67;have p754:0≤(0:Int):=(by omega);have q754:0<(x12_2.length:Int):=aD_;obtain ⟨ad754,e754,hx754_0⟩:=Kd.at_int (Kd.R_reads' HO_12.out).2.2 0 p754 q754;cases e754;have qi754:(0<x12_2.length)=True:=eq_true (by omega);(try rw [show ((0:Int)).toNat=0 from rfl] at hx754_0);(try rw [Addr.add_zero'] at hx754_0);replace p754:=eq_true p754;replace q754:=eq_true q754;obtain ⟨Ao68,co68,eo68⟩:=Kd.R_slice HO_7.out;subst eo68;have p755:0≤((rd x12_2 0):Int):=aD_;have q755:(rd x12_2 0)<(t733.length:Int):=aD_;obtain ⟨ad755,e755,hx755_0⟩:=Kd.at_bool (Kd.R_reads' HO_7.out).2.2 (rd x12_2 0) p755 q755;(try rw [← Nbq40.out] at hx755_0);(try rw [← Nbq53.out] at hx755_0);cases e755;replace p755:=eq_true p755;replace q755:=eq_true q755;have p759:0≤(1:Int):=(by omega);have q759:1<(x12_2.length:Int):=aD_;obtain ⟨ad759,e759,hx759_0⟩:=Kd.at_int (Kd.R_reads' HO_12.out).2.2 1 p759 q759;obtain rfl:ad754=ad759:=(by injection e759);(try simp only [show (1:Int).toNat=1 from rfl,Nat.reduceMul,Nat.reduceEqDiff,Go.Addr.add,↓reduceIte] at hx759_0);have qi759:(1<x12_2.length)=True:=eq_true (by omega);(try rw [show ((1:Int)).toNat=1 from rfl] at hx759_0);replace p759:=eq_true p759;replace q759:=eq_true q759;have p760:0≤((rd x12_2 1):Int):=aD_;have q760:(rd x12_2 1)<(t733.length:Int):=aD_;obtain ⟨ad760,e760,hx760_0⟩:=Kd.at_bool (Kd.R_reads' HO_7.out).2.2 (rd x12_2 1) p760 q760;(try rw [← Nbq40.out] at hx760_0);(try rw [← Nbq53.out] at hx760_0);obtain rfl:ad755=ad760:=(by injection e760);replace p760:=eq_true p760;replace q760:=eq_true q760))
  go_ret3
  exact ⟨_,by first|rfl|(simp [zAE,zAF] <;> rfl)|(simp [*,zAE,zAF] <;> rfl),by first|exact Kd.R_nil _ _ _ _ _|exact Kd.N_nil _ _ _ _ _|exact Kd.V_nil _ _ _ _ _|exact Kd.Q_nil _ _ _ _ _|exact Kd.S_nil _ _ _ _ _,aI_ HB.out GE730.out⟩
 subst c54
 have H1:(if x9_1.length<17592186044416 then (zAP.l0 k2 t733 (x9_1 ++ [t752]) (wrap64 (x10_1+1)) a0_0 l0_1 a0_2 l0_3) else (none))=some (r1,r2,r3):=by rw [if_pos rfl] at H;exact H
 clear H
 have H:=H1
 clear H1
 have c55:=yes_ H
 rw [if_pos c55] at H
 have LMc55:=aK_ c55
 clear c55
 obtain ⟨y761,hy761⟩:∃ y_:List Int,y_=(x9_1 ++ [t752]):=⟨_,rfl⟩
 replace H:(zAP.l0 k2 t733 y761 (wrap64 (x10_1+1)) a0_0 l0_1 a0_2 l0_3)=some (r1,r2,r3):=by first|(rw [hy761];with_reducible exact H)|(have H2_:=(Option.bind_some _ _).symm.trans H;rw [hy761];with_reducible exact H2_)|(have H2_:=(Option.bind_some _ _).symm.trans H;with_reducible exact H2_)|with_reducible exact H|(rw [hy761];exact H)|exact H
 have Ny761:=aK_ hy761
 clear hy761
 have H':=aK_ H
 clear H
 have hcz56_0:wr.cell? ⟨gb730,0,none⟩=some (.string a0_0):=(zAB BK730.out 0).trans rfl
 have hcz56_1:wr.cell? ⟨gb730,1,none⟩=some (.slice A0_1 l0_1.length c0_1):=(zAB BK730.out 1).trans rfl
 have hcz56_2:wr.cell? ⟨gb730,2,none⟩=some (.int .i64 a0_2):=(zAB BK730.out 2).trans rfl
 have hcz56_3:wr.cell? ⟨gb730,3,none⟩=some (.slice (some ad738) l0_3.length c0_3):=(zAB BK730.out 3).trans rfl
 have hfz56_0:=zAA BK730.out 0
 have hfz56_1:=zAA BK730.out 1
 have hfz56_2:=zAA BK730.out 2
 have hfz56_3:=zAA BK730.out 3
 have p751:0≤(x10_1:Int):=aD_
 have q751:x10_1<(l0_3.length:Int):=aD_
 obtain ⟨ad751,A751_4,c751_4,e751,hx751_0,hx751_1,hx751_2,hx751_3,hx751_4,hx751_5,hl751_4,hi751_4⟩:=at_T33 HR0_3.out x10_1 p751 q751
 obtain rfl:ad738=ad751:=(by injection e751)
 replace hx751_0:=(HB.out.cell (World.block_lt_of_cell? w _ hx751_0)).trans hx751_0
 replace hx751_1:=(HB.out.cell (World.block_lt_of_cell? w _ hx751_1)).trans hx751_1
 replace hx751_2:=(HB.out.cell (World.block_lt_of_cell? w _ hx751_2)).trans hx751_2
 replace hx751_3:=(HB.out.cell (World.block_lt_of_cell? w _ hx751_3)).trans hx751_3
 replace hx751_4:=(HB.out.cell (World.block_lt_of_cell? w _ hx751_4)).trans hx751_4
 replace hx751_5:=(HB.out.cell (World.block_lt_of_cell? w _ hx751_5)).trans hx751_5
 have HR751_4:=aK_ hi751_4
 have HC751_4:=aK_ hl751_4
 clear hi751_4 hl751_4
 replace p751:=eq_true p751
 replace q751:=eq_true q751
 obtain ⟨Ao57,co57,eo57⟩:=Kd.R_slice HO_11.out
 subst eo57
 go_wp2_with (first|((with_reducible refine zAc (f:=54) rfl ?_);refine goesL_ (some 70) rfl rfl Tryd.func54 (by kernel_rfl) rfl #[.agg #[.int .i64 ((zAC l0_3 x10_1).f0),.int .i64 ((zAC l0_3 x10_1).f1),.int .i64 ((zAC l0_3 x10_1).f2),.int .i64 ((zAC l0_3 x10_1).f3),.slice A751_4 ((zAC l0_3 x10_1).f4).length c751_4,.int .i64 ((zAC l0_3 x10_1).f5)],.slice Ao57 x11_2.length co57] rfl aM_ ?_;(with_reducible refine (zAJ.calls k2 ((zAC l0_3 x10_1).f0) ((zAC l0_3 x10_1).f1) ((zAC l0_3 x10_1).f2) ((zAC l0_3 x10_1).f3) _ _ ((zAC l0_3 x10_1).f4) ((zAC l0_3 x10_1).f5) _ _ x11_2 t752 _ ?side1 ?side2 ?side3 ?side4 A31.out).mono ?_);(case side1=>repeat (first|exact (Kd.C_below HR751_4.out HB.out)|(with_reducible refine Kd.C_alloc ?_ _)|(with_reducible refine Kd.C_drewN ?_ _)|(with_reducible refine Kd.C_drew ?_)));(case side2=>exact HC751_4.out);(case side3=>repeat (first|exact (Kd.R_reads' HO_11.out).2.2|(with_reducible refine Kd.C_alloc ?_ _)|(with_reducible refine Kd.C_drewN ?_ _)|(with_reducible refine Kd.C_drew ?_)));(case side4=>exact (Kd.R_reads' HO_11.out).2.1);rintro e w58 ⟨rfl,hb⟩;refine ⟨_,rfl,?_⟩;have n0_:=aK_ (Kd.R_below (aR_ HO_7.out) hb);have n1_:=aK_ (Kd.R_below (aR_ HO_9.out) hb);have n2_:=aK_ (Kd.R_below (aR_ HO_11.out) hb);have n3_:=aK_ (Kd.R_below (aR_ HO_12.out) hb);have n4_:=aK_ (zAY (g:=gb730) (o:=.cells #[.string a0_0,.slice A0_1 l0_1.length c0_1,.int .i64 a0_2,.slice (some ad738) l0_3.length c0_3] 25 (0,0)) (aB_ BK730.out) hb);have n5_:=aK_ (zAG (aI_ HB.out GE730.out) hb);clear HO_7;clear HO_9;clear HO_11;clear HO_12;clear BK730;clear HB;have HO_7:=n0_;have HO_9:=n1_;have HO_11:=n2_;have HO_12:=n3_;have BK730:=n4_;have HB:=n5_;clear n0_ n1_ n2_ n3_ n4_ n5_;(try clear hb);(try clear hb2);(try clear hk);(try clear hi);have hcz59_0:w58.cell? ⟨gb730,0,none⟩=some (.string a0_0):=(zAB BK730.out 0).trans rfl;have hcz59_1:w58.cell? ⟨gb730,1,none⟩=some (.slice A0_1 l0_1.length c0_1):=(zAB BK730.out 1).trans rfl;have hcz59_2:w58.cell? ⟨gb730,2,none⟩=some (.int .i64 a0_2):=(zAB BK730.out 2).trans rfl;have hcz59_3:w58.cell? ⟨gb730,3,none⟩=some (.slice (some ad738) l0_3.length c0_3):=(zAB BK730.out 3).trans rfl;have hfz59_0:=zAA BK730.out 0;have hfz59_1:=zAA BK730.out 1;have hfz59_2:=zAA BK730.out 2;have hfz59_3:=zAA BK730.out 3;have p753:0≤(x10_1:Int):=aD_;have q753:x10_1<(l0_3.length:Int):=aD_;obtain ⟨ad753,A753_4,c753_4,e753,hx753_0,hx753_1,hx753_2,hx753_3,hx753_4,hx753_5,hl753_4,hi753_4⟩:=at_T33 HR0_3.out x10_1 p753 q753;obtain rfl:ad738=ad753:=(by injection e753);replace hx753_0:=(HB.out.cell (World.block_lt_of_cell? w _ hx753_0)).trans hx753_0;replace hx753_1:=(HB.out.cell (World.block_lt_of_cell? w _ hx753_1)).trans hx753_1;replace hx753_2:=(HB.out.cell (World.block_lt_of_cell? w _ hx753_2)).trans hx753_2;replace hx753_3:=(HB.out.cell (World.block_lt_of_cell? w _ hx753_3)).trans hx753_3;replace hx753_4:=(HB.out.cell (World.block_lt_of_cell? w _ hx753_4)).trans hx753_4;replace hx753_5:=(HB.out.cell (World.block_lt_of_cell? w _ hx753_5)).trans hx753_5;have HR753_4:=aK_ hi753_4;have HC753_4:=aK_ hl753_4;clear hi753_4 hl753_4;replace p753:=eq_true p753;replace q753:=eq_true q753;obtain ⟨Ao60,co60,eo60⟩:=Kd.R_slice HO_12.out;subst eo60;have p754:0≤(0:Int):=(by omega);have q754:0<(x12_2.length:Int):=aD_;obtain ⟨ad754,e754,hx754_0⟩:=Kd.at_int (Kd.R_reads' HO_12.out).2.2 0 p754 q754;cases e754;have qi754:(0<x12_2.length)=True:=eq_true (by omega);(try rw [show ((0:Int)).toNat=0 from rfl] at hx754_0);(try rw [Addr.add_zero'] at hx754_0);replace p754:=eq_true p754;replace q754:=eq_true q754;obtain ⟨Ao61,co61,eo61⟩:=Kd.R_slice HO_7.out;subst eo61;have p755:0≤((rd x12_2 0):Int):=aD_;have q755:(rd x12_2 0)<(t733.length:Int):=aD_;obtain ⟨ad755,e755,hx755_0⟩:=Kd.at_bool (Kd.R_reads' HO_7.out).2.2 (rd x12_2 0) p755 q755;(try rw [← Nbq40.out] at hx755_0);(try rw [← Nbq53.out] at hx755_0);cases e755;replace p755:=eq_true p755;replace q755:=eq_true q755;have p759:0≤(1:Int):=(by omega);have q759:1<(x12_2.length:Int):=aD_;obtain ⟨ad759,e759,hx759_0⟩:=Kd.at_int (Kd.R_reads' HO_12.out).2.2 1 p759 q759;obtain rfl:ad754=ad759:=(by injection e759);(try simp only [show (1:Int).toNat=1 from rfl,Nat.reduceMul,Nat.reduceEqDiff,Go.Addr.add,↓reduceIte] at hx759_0);have qi759:(1<x12_2.length)=True:=eq_true (by omega);(try rw [show ((1:Int)).toNat=1 from rfl] at hx759_0);replace p759:=eq_true p759;replace q759:=eq_true q759;have p760:0≤((rd x12_2 1):Int):=aD_;have q760:(rd x12_2 1)<(t733.length:Int):=aD_;obtain ⟨ad760,e760,hx760_0⟩:=Kd.at_bool (Kd.R_reads' HO_7.out).2.2 (rd x12_2 1) p760 q760;(try rw [← Nbq40.out] at hx760_0);(try rw [← Nbq53.out] at hx760_0);obtain rfl:ad755=ad760:=(by injection e760);replace p760:=eq_true p760;replace q760:=eq_true q760)|((with_reducible refine gate_builtin (b:=.append) (xs:=#[.tmp 100,.tmp 102]) rfl ?_);at_builtin;refine Kd.R_append (Kd.int .i64) (w0:=w) w.heap.size rfl (.tmp 100) (.tmp 102) 36 3 (.int .i64 0) 8 rfl Tryd.underlying36 info3 rfl (by decide) (by omega) u9 x9_1 t752 [.int .i64 t752] (fun k_=>some k_≠(.slice Ao57 x11_2.length co57:Value).ownBlock∧some k_≠(.slice (some ad754) x12_2.length co60:Value).ownBlock) (fun _=>False) rfl rfl ?aP (fun _ hk=>hk.elim) ?aF ?aO ?aB ?aS ?aL ?_;(case aP=>exact rfl);(case aB=>exact (aI_ HB.out GE730.out));(case aF=>exact (fun k_ hk=>⟨Kd.fresh' (Kd.R_lt (aR_ HO_11.out)) k_ hk,Kd.fresh' (Kd.R_lt (aR_ HO_12.out)) k_ hk⟩));(case aO=>exact (aR_ HO_9.out));(case aS=>exact (zAD (aI_ HB.out GE730.out)));(case aL=>have:=LMc55.out;omega);intro v762 w62 ho hb hg hat;rw [← Ny761.out] at ho;have n0_:=aK_ (Kd.R_over' (aR_ HO_7.out) (Kd.R_typed (aR_ HO_9.out)) (by decide) hg);have n1_:=aK_ (Kd.R_after (ok:=(fun k_=>some k_≠(.slice (some ad754) x12_2.length co60:Value).ownBlock)) (by refine aR_ ?_;exact Kd.R_mono HO_11.out (fun _ hk=>⟨hk.2,hk.1⟩)) hg hat);have n2_:=aK_ (Kd.R_after (ok:=(fun k_=>some k_≠(.slice Ao57 x11_2.length co57:Value).ownBlock)) (by refine aR_ ?_;exact Kd.R_mono HO_12.out (fun _ hk=>⟨hk.2,hk.1⟩)) hg hat);have n3_:=aK_ (blk_grown (g:=gb730) (o:=.cells #[.string a0_0,.slice A0_1 l0_1.length c0_1,.int .i64 a0_2,.slice (some ad738) l0_3.length c0_3] 25 (0,0)) (aB_ BK730.out) hg (Kd.R_ne HO_9.out BK730.out (by decide)));have n4_:=aK_ (hb);have n5_:=aK_ (ho);clear HO_7;clear HO_11;clear HO_12;clear BK730;clear HB;clear HO_9;have HO_7:=n0_;have HO_11:=n1_;have HO_12:=n2_;have BK730:=n3_;have HB:=n4_;have HO763:=n5_;clear n0_ n1_ n2_ n3_ n4_ n5_;clear ho hb hg hat))
 go_roundg k2
 case measure=>have:=HK1.out;have:=HK2.out;omega
 case rel=>exact ⟨(y761),(wrap64 (x10_1+1)),aS2_,H',⟨by have:=HK1.out;have:=HK2.out;omega⟩,⟨aR_ HO_7.out⟩,⟨by refine aR_ ?_;exact Kd.R_mono HO763.out (fun _ hk=>trivial)⟩,⟨aB_ BK730.out⟩,⟨aI_ HB.out GE730.out⟩⟩
end Go.Proofs.YthbnigjckjkmnaaDoor.S

namespace Go.Proofs.YthbnigjckjkmnaaDoor.S
open Go.RowKit Go.Proofs.YthbnigjckjkmnaaDoorW.PrintWords Go.Proofs.YthbnigjckjkmnaaDoorW.PrintLast Go.Proofs.YthbnigjckjkmnaaDoorW.PrintMore
attribute [local go_sem] max2_int min2_int max_two min_two max_three min_three max_four min_four
def scan_letter.f (a0:Int):Option (Bool):=if a0≥97 then (some (decide (a0≤122))) else (some false)
set_option maxHeartbeats 8000000 in
set_option maxRecDepth 100000 in
theorem scan_letter.calls (a0:Int) (r:Bool) (w:World) (h:scan_letter.f a0=some r) :
  Calls Tryd.prog 76 #[.int .u8 a0] w fun e w'=>e = .returned (.bool r)∧zAi w w':=by
 have H:(if a0≥97 then (some (decide (a0≤122))) else (some false))=some r:=h
 clear h
 by_cases c2:a0≥97
 ·rw [if_pos c2] at H
  have c2b0:decide (97≤a0)=true:=decide_eq_true c2
  clear c2
  obtain rfl:=Option.some.inj H
  go_enter Tryd.func76,Tryd.ntmps76
  go_wp2
  go_ret
  exact ⟨by first|rfl|(simp;done)|(simp [*];done),by repeat (first|exact zAi.refl _|apply zAi.step)⟩
 rw [if_neg c2] at H
 have c2b0:decide (97≤a0)=false:=decide_eq_false c2
 clear c2
 obtain rfl:=Option.some.inj H
 go_enter Tryd.func76,Tryd.ntmps76
 go_wp2
 go_ret
 exact ⟨by first|rfl|(simp;done)|(simp [*];done),by repeat (first|exact zAi.refl _|apply zAi.step)⟩
end Go.Proofs.YthbnigjckjkmnaaDoor.S

namespace Go.Proofs.YthbnigjckjkmnaaDoor.S
open Go.RowKit Go.Proofs.YthbnigjckjkmnaaDoorW.PrintWords Go.Proofs.YthbnigjckjkmnaaDoorW.PrintLast Go.Proofs.YthbnigjckjkmnaaDoorW.PrintMore
attribute [local go_sem] max2_int min2_int max_two min_two max_three min_three max_four min_four
mutual
def tree_rising.j0:Nat→List (S45)→Bool→Option (Bool)
 |0,_,_=>none
 |k+1,x0,x19=>if x19=true then (some false) else (tree_rising.l0 k x0 x0 (x0.length:Int) 0)
def tree_rising.l0:Nat→List (S45)→List (S45)→Int→Int→Option (Bool)
 |0,_,_,_,_=>none
 |k+1,x0,x20,x21,x22=>if x22<x21 then (if 0≤x22 then (if x22<(x20.length:Int) then (if x22 > 0 then (if 0≤(wrap64 (x22 - 1)) then (if (wrap64 (x22 - 1))<(x0.length:Int) then (if ((zAe x20 x22).f0)≤((zAe x0 (wrap64 (x22 - 1))).f0) then (some false) else (if ((zAe x20 x22).f0) > 1000000000000 then (some false) else (if ((zAe x20 x22).f1)<(-1000000000000) then (some false) else (if ((zAe x20 x22).f1) > 1000000000000 then (some false) else (tree_rising.l0 k x0 x20 x21 (wrap64 (x22+1))))))) else (none)) else (none)) else (if ((zAe x20 x22).f0) > 1000000000000 then (some false) else (if ((zAe x20 x22).f1)<(-1000000000000) then (some false) else (if ((zAe x20 x22).f1) > 1000000000000 then (some false) else (tree_rising.l0 k x0 x20 x21 (wrap64 (x22+1))))))) else (none)) else (none)) else (some true)
end
def tree_rising.f (k:Nat) (l0:List (S45)):Option (Bool):=if (l0.length:Int)<1 then (tree_rising.j0 k l0 true) else (if (l0.length:Int) > 16 then (tree_rising.j0 k l0 true) else (if 0<(l0.length:Int) then (tree_rising.j0 k l0 (((zAe l0 0).f0) != 0)) else (none)))
theorem tree_rising.mono_l:∀ k,(∀ y0 y1,LeO (tree_rising.j0 k y0 y1) (tree_rising.j0 (k+1) y0 y1))∧(∀ y0 y1 y2 y3,LeO (tree_rising.l0 k y0 y1 y2 y3) (tree_rising.l0 (k+1) y0 y1 y2 y3))
 |0=>⟨fun _ _ r h=>by simp [tree_rising.j0] at h,fun _ _ _ _ r h=>by simp [tree_rising.l0] at h⟩
 |k+1=>by
  obtain ⟨ih0,ih1⟩:=tree_rising.mono_l k
  refine ⟨?_,?_⟩
  ·intro y0 y1
   unfold tree_rising.j0
   repeat' first
   |(with_reducible exact ih0 _ _)
   |(with_reducible exact ih1 _ _ _ _)
   |(with_reducible exact LeO.refl _)
   |(with_reducible exact LeO.none _)
   |(with_reducible refine LeO.ite ?_ ?_)
   |(with_reducible refine LeO.bind ?_ (fun _=>?_))
   |exact ih0 _ _
   |exact ih1 _ _ _ _
   |exact LeO.none _
   |refine LeO.ite ?_ ?_
   |refine LeO.bind ?_ (fun _=>?_)
  ·intro y0 y1 y2 y3
   unfold tree_rising.l0
   repeat' first
   |(with_reducible exact ih0 _ _)
   |(with_reducible exact ih1 _ _ _ _)
   |(with_reducible exact LeO.refl _)
   |(with_reducible exact LeO.none _)
   |(with_reducible refine LeO.ite ?_ ?_)
   |(with_reducible refine LeO.bind ?_ (fun _=>?_))
   |exact ih0 _ _
   |exact ih1 _ _ _ _
   |exact LeO.none _
   |refine LeO.ite ?_ ?_
   |refine LeO.bind ?_ (fun _=>?_)
theorem tree_rising.mono:∀ a0 k,LeO (tree_rising.f k a0) (tree_rising.f (k+1) a0):=by
 intro a0 k
 obtain ⟨ih0,ih1⟩:=tree_rising.mono_l k
 unfold tree_rising.f
 repeat' first
   |(with_reducible exact ih0 _ _)
   |(with_reducible exact ih1 _ _ _ _)
   |(with_reducible exact LeO.refl _)
   |(with_reducible exact LeO.none _)
   |(with_reducible refine LeO.ite ?_ ?_)
   |(with_reducible refine LeO.bind ?_ (fun _=>?_))
   |exact ih0 _ _
   |exact ih1 _ _ _ _
   |exact LeO.none _
   |refine LeO.ite ?_ ?_
   |refine LeO.bind ?_ (fun _=>?_)
set_option maxHeartbeats 8000000 in
set_option maxRecDepth 100000 in
theorem tree_rising.calls (k:Nat) (A0:Option Addr) (c0:Nat) (l0:List (S45)) (r:Bool) (w:World) (hr0:Kd.C k45 w A0 l0.length l0) (hc0:l0.length≤c0) (h:tree_rising.f k l0=some r) :
  Calls Tryd.prog 58 #[.slice A0 l0.length c0] w fun e w'=>e = .returned (.bool r)∧Below w.heap.size w w':=by
 have hu45:=Tryd.underlying45
 have HR0:=aK_ hr0
 have HC0:=aK_ hc0
 clear hr0 hc0
 have HB:=aK_ (Below.refl w.heap.size w)
 have H:(if (l0.length:Int)<1 then (tree_rising.j0 k l0 true) else (if (l0.length:Int) > 16 then (tree_rising.j0 k l0 true) else (if 0<(l0.length:Int) then (tree_rising.j0 k l0 (((zAe l0 0).f0) != 0)) else (none))))=some r:=h
 clear h
 have HC2:=aK_ H
 clear H
 go_enter Tryd.func58,Tryd.ntmps58
 go_upto_region 1 with (fail)
 repeat (go_quiet (fail);go_upto_region 1 with (fail))
 go_cut [19] (fun v19 wc=>∃ (kq:Nat) (x19_1:Bool),v19 = .bool x19_1∧zAa (tree_rising.j0 kq l0 x19_1=some r)∧zAa (kq≤k)∧zAa (Below w.heap.size w wc))
 case first =>
  have H:=HC2.out
  clear HC2
  by_cases c3:(l0.length:Int)<1
  ·rw [if_pos c3] at H
   have c3b0:decide ((l0.length:Int)<1)=true:=decide_eq_true c3
   have c3b1:decide (l0.length<1)=true:=decide_eq_true (by omega)
   clear c3
   (first|rw [c3b0]|(simp only [i64_w,i32_w];rw [c3b0])|skip)
   have H':=aK_ H
   clear H
   go_wp2
   repeat (go_quiet (fail);try go_wp2)
   go_meet
   case rel=>exact ⟨_,(true),aS2_,H',⟨by first|omega|exact Nat.le_refl _⟩,⟨aH_ HB.out⟩⟩
  rw [if_neg c3] at H
  have c3b0:decide ((l0.length:Int)<1)=false:=decide_eq_false c3
  have c3b1:decide (l0.length<1)=false:=decide_eq_false (by omega)
  clear c3
  (first|rw [c3b0]|(simp only [i64_w,i32_w];rw [c3b0])|skip)
  by_cases c4:(l0.length:Int) > 16
  ·rw [if_pos c4] at H
   have c4b0:decide (16<(l0.length:Int))=true:=decide_eq_true c4
   have c4b1:decide (16<l0.length)=true:=decide_eq_true (by omega)
   clear c4
   have H':=aK_ H
   clear H
   go_wp2
   repeat (go_quiet (fail);try go_wp2)
   go_meet
   case rel=>exact ⟨_,(true),aS2_,H',⟨by first|omega|exact Nat.le_refl _⟩,⟨aH_ HB.out⟩⟩
  rw [if_neg c4] at H
  have c4b0:decide (16<(l0.length:Int))=false:=decide_eq_false c4
  have c4b1:decide (16<l0.length)=false:=decide_eq_false (by omega)
  clear c4
  have c5:=yes_ H
  rw [if_pos c5] at H
  have c5b0:decide (0<(l0.length:Int))=true:=decide_eq_true c5
  have c5b1:decide (0<l0.length)=true:=decide_eq_true (by omega)
  clear c5
  have H':=aK_ H
  clear H
  have p113:0≤(0:Int):=(by omega)
  have q113:0<(l0.length:Int):=aD_
  obtain ⟨ad113,e113,hx113_0,hx113_1⟩:=at_T45 HR0.out 0 p113 q113
  cases e113
  have qi113:(0<l0.length)=True:=eq_true (by omega)
  (try rw [show ((0:Int)).toNat=0 from rfl] at hx113_0)
  (try rw [show 0 * 2=0 from rfl] at hx113_0)
  (try rw [Addr.add_zero'] at hx113_0)
  (try rw [show ((0:Int)).toNat=0 from rfl] at hx113_1)
  (try rw [show 0 * 2=0 from rfl] at hx113_1)
  (try rw [Addr.add_zero'] at hx113_1)
  replace hx113_0:=(HB.out.cell (World.block_lt_of_cell? w _ hx113_0)).trans hx113_0
  replace hx113_1:=(HB.out.cell (World.block_lt_of_cell? w _ hx113_1)).trans hx113_1
  replace p113:=eq_true p113
  replace q113:=eq_true q113
  go_wp2
  repeat (go_quiet (fail);try go_wp2)
  go_meet
  case rel=>exact ⟨_,((((zAe l0 0).f0) != 0)),aS2_,H',⟨by first|omega|exact Nat.le_refl _⟩,⟨aH_ HB.out⟩⟩
 clear HC2
 try clear p1
 try clear q1
 try clear hx1
 try clear qi1
 try clear p2
 try clear c3
 try clear c3b0
 try clear c3b1
 try clear c4
 try clear c4b0
 try clear c4b1
 try clear c5
 try clear c5b0
 try clear c5b1
 try clear hx113_0
 try clear hx113_1
 try clear p113
 try clear q113
 obtain ⟨kq,x19_1,rfl,HA,HJ1,HB⟩:=hcut
 cases kq with
 |zero=>exact absurd HA.out (by simp [tree_rising.j0])
 |succ kj1=>?_
 have H:=HA.out
 clear HA
 simp only [tree_rising.j0] at H
 by_cases c6:x19_1=true
 ·subst c6
  have H1:(some false)=some r:=by rw [if_pos rfl] at H;exact H
  clear H
  have H:=H1
  clear H1
  obtain rfl:=Option.some.inj H
  go_wp2
  repeat (go_quiet (fail);try go_wp2)
  go_ret
  exact ⟨by first|rfl|(simp [zAE,zAF] <;> rfl)|(simp [*,zAE,zAF] <;> rfl),aH_ HB.out⟩
 replace c6:=Bool.eq_false_iff.mpr c6
 subst c6
 have H1:(tree_rising.l0 kj1 l0 l0 (l0.length:Int) 0)=some r:=by rw [if_neg (show ¬ (false=true) by decide)] at H;exact H
 clear H
 have H:=H1
 clear H1
 have H':=aK_ H
 clear H
 go_wp2
 repeat (go_quiet (fail);try go_wp2)
 (try simp only [Act.put,List.setIfInBounds_toArray,List.set_cons_zero,List.set_cons_succ])
 go_loopg [22] kj1 (fun kq v22 w'=>∃ (x22_2:Int),v22 = .int .i64 x22_2∧zAa (tree_rising.l0 kq l0 l0 (l0.length:Int) x22_2=some r)∧zAa (kq≤kj1)∧zAa (Below w.heap.size w w'))
 case atStart=>exact ⟨(0),aS2_,H',⟨Nat.le_refl _⟩,⟨aH_ HB.out⟩⟩
 clear H'
 try clear p1
 try clear q1
 try clear hx1
 try clear qi1
 try clear p2
 try clear c3
 try clear c3b0
 try clear c3b1
 try clear c4
 try clear c4b0
 try clear c4b1
 try clear c5
 try clear c5b0
 try clear c5b1
 try clear c6
 try clear hx113_0
 try clear hx113_1
 try clear p1
 try clear p113
 try clear p2
 try clear q1
 try clear q113
 obtain ⟨x22_2,rfl,HA,HK2,HB⟩:=hrel
 cases gk with
 |zero=>exact absurd HA.out (by simp [tree_rising.l0])
 |succ k2=>?_
 have H:=HA.out
 clear HA
 simp only [tree_rising.l0] at H
 by_cases c7:x22_2<(l0.length:Int)
 rotate_left
 ·rw [if_neg c7] at H
  have c7b0:decide (x22_2<(l0.length:Int))=false:=decide_eq_false c7
  clear c7
  obtain rfl:=Option.some.inj H
  go_wp2
  repeat (go_quiet (fail);try go_wp2)
  go_ret
  exact ⟨by first|rfl|(simp [zAE,zAF] <;> rfl)|(simp [*,zAE,zAF] <;> rfl),aH_ HB.out⟩
 rw [if_pos c7] at H
 have c7b0:decide (x22_2<(l0.length:Int))=true:=decide_eq_true c7
 clear c7
 have c8:=yes_ H
 rw [if_pos c8] at H
 have c8b0:decide (0≤x22_2)=true:=decide_eq_true c8
 clear c8
 have c9:=yes_ H
 rw [if_pos c9] at H
 have c9b0:decide (x22_2<(l0.length:Int))=true:=decide_eq_true c9
 clear c9
 by_cases c10:x22_2 > 0
 rotate_left
 ·rw [if_neg c10] at H
  have c10b0:decide (0<x22_2)=false:=decide_eq_false c10
  clear c10
  by_cases c28:((zAe l0 x22_2).f0) > 1000000000000
  ·rw [if_pos c28] at H
   have c28b0:decide (1000000000000<((zAe l0 x22_2).f0))=true:=decide_eq_true c28
   clear c28
   obtain rfl:=Option.some.inj H
   have p114:0≤(x22_2:Int):=aD_
   have q114:x22_2<(l0.length:Int):=aD_
   obtain ⟨ad114,e114,hx114_0,hx114_1⟩:=at_T45 HR0.out x22_2 p114 q114
   cases e114
   replace hx114_0:=(HB.out.cell (World.block_lt_of_cell? w _ hx114_0)).trans hx114_0
   replace hx114_1:=(HB.out.cell (World.block_lt_of_cell? w _ hx114_1)).trans hx114_1
   replace p114:=eq_true p114
   replace q114:=eq_true q114
   go_wp2_with (first|((with_reducible refine zAZ (N:=4) rfl ?_);(try (refine zAl (by rfl) ?_;dsimp only));refine zAW ?hg (N:=4) ?hd (cs:=#[.int .i64 0,.int .i64 0]) (t:=45) ?hr ?_;(case hd=>rfl);(case hg=>rfl);(case hr=>first|(go_simp;done)|(go_simp;rfl));intro gb115 hg w29 hbox hb;have n0_:=aK_ (zAG (aH_ HB.out) hb);have n1_:=aK_ (hbox);have n2_:=aK_ ((by rw [hg];exact (zAD (aH_ HB.out)):w.heap.size≤gb115));have n3_:=aK_ ((by rw [hg];exact (zAD (aH_ HB.out)):w.heap.size≤gb115));clear HB;have HB:=n0_;have BK115:=n1_;have GW115:=n2_;have GE115:=n3_;clear n0_ n1_ n2_ n3_;clear hb hbox hg;have hcz30_0:w29.cell? ⟨gb115,0,none⟩=some (.int .i64 0):=(zAB BK115.out 0).trans rfl;have hcz30_1:w29.cell? ⟨gb115,1,none⟩=some (.int .i64 0):=(zAB BK115.out 1).trans rfl;have hfz30_0:=zAA BK115.out 0;have hfz30_1:=zAA BK115.out 1))
   repeat (go_quiet (first|((with_reducible refine zAZ (N:=4) rfl ?_);(try (refine zAl (by rfl) ?_;dsimp only));refine zAW ?hg (N:=4) ?hd (cs:=#[.int .i64 0,.int .i64 0]) (t:=45) ?hr ?_;(case hd=>rfl);(case hg=>rfl);(case hr=>first|(go_simp;done)|(go_simp;rfl));intro gb115 hg w29 hbox hb;have n0_:=aK_ (zAG (aH_ HB.out) hb);have n1_:=aK_ (hbox);have n2_:=aK_ ((by rw [hg];exact (zAD (aH_ HB.out)):w.heap.size≤gb115));have n3_:=aK_ ((by rw [hg];exact (zAD (aH_ HB.out)):w.heap.size≤gb115));clear HB;have HB:=n0_;have BK115:=n1_;have GW115:=n2_;have GE115:=n3_;clear n0_ n1_ n2_ n3_;clear hb hbox hg;have hcz30_0:w29.cell? ⟨gb115,0,none⟩=some (.int .i64 0):=(zAB BK115.out 0).trans rfl;have hcz30_1:w29.cell? ⟨gb115,1,none⟩=some (.int .i64 0):=(zAB BK115.out 1).trans rfl;have hfz30_0:=zAA BK115.out 0;have hfz30_1:=zAA BK115.out 1));try go_wp2_with (first|((with_reducible refine zAZ (N:=4) rfl ?_);(try (refine zAl (by rfl) ?_;dsimp only));refine zAW ?hg (N:=4) ?hd (cs:=#[.int .i64 0,.int .i64 0]) (t:=45) ?hr ?_;(case hd=>rfl);(case hg=>rfl);(case hr=>first|(go_simp;done)|(go_simp;rfl));intro gb115 hg w29 hbox hb;have n0_:=aK_ (zAG (aH_ HB.out) hb);have n1_:=aK_ (hbox);have n2_:=aK_ ((by rw [hg];exact (zAD (aH_ HB.out)):w.heap.size≤gb115));have n3_:=aK_ ((by rw [hg];exact (zAD (aH_ HB.out)):w.heap.size≤gb115));clear HB;have HB:=n0_;have BK115:=n1_;have GW115:=n2_;have GE115:=n3_;clear n0_ n1_ n2_ n3_;clear hb hbox hg;have hcz30_0:w29.cell? ⟨gb115,0,none⟩=some (.int .i64 0):=(zAB BK115.out 0).trans rfl;have hcz30_1:w29.cell? ⟨gb115,1,none⟩=some (.int .i64 0):=(zAB BK115.out 1).trans rfl;have hfz30_0:=zAA BK115.out 0;have hfz30_1:=zAA BK115.out 1)))
   go_ret
   exact ⟨by first|rfl|(simp [zAE,zAF] <;> rfl)|(simp [*,zAE,zAF] <;> rfl),aI_ HB.out GE115.out⟩
  rw [if_neg c28] at H
  have c28b0:decide (1000000000000<((zAe l0 x22_2).f0))=false:=decide_eq_false c28
  clear c28
  by_cases c31:((zAe l0 x22_2).f1)<(-1000000000000)
  ·rw [if_pos c31] at H
   have c31b0:decide (((zAe l0 x22_2).f1)<(-1000000000000))=true:=decide_eq_true c31
   clear c31
   obtain rfl:=Option.some.inj H
   have p114:0≤(x22_2:Int):=aD_
   have q114:x22_2<(l0.length:Int):=aD_
   obtain ⟨ad114,e114,hx114_0,hx114_1⟩:=at_T45 HR0.out x22_2 p114 q114
   cases e114
   replace hx114_0:=(HB.out.cell (World.block_lt_of_cell? w _ hx114_0)).trans hx114_0
   replace hx114_1:=(HB.out.cell (World.block_lt_of_cell? w _ hx114_1)).trans hx114_1
   replace p114:=eq_true p114
   replace q114:=eq_true q114
   go_wp2_with (first|((with_reducible refine zAZ (N:=4) rfl ?_);(try (refine zAl (by rfl) ?_;dsimp only));refine zAW ?hg (N:=4) ?hd (cs:=#[.int .i64 0,.int .i64 0]) (t:=45) ?hr ?_;(case hd=>rfl);(case hg=>rfl);(case hr=>first|(go_simp;done)|(go_simp;rfl));intro gb115 hg w32 hbox hb;have n0_:=aK_ (zAG (aH_ HB.out) hb);have n1_:=aK_ (hbox);have n2_:=aK_ ((by rw [hg];exact (zAD (aH_ HB.out)):w.heap.size≤gb115));have n3_:=aK_ ((by rw [hg];exact (zAD (aH_ HB.out)):w.heap.size≤gb115));clear HB;have HB:=n0_;have BK115:=n1_;have GW115:=n2_;have GE115:=n3_;clear n0_ n1_ n2_ n3_;clear hb hbox hg;have hcz33_0:w32.cell? ⟨gb115,0,none⟩=some (.int .i64 0):=(zAB BK115.out 0).trans rfl;have hcz33_1:w32.cell? ⟨gb115,1,none⟩=some (.int .i64 0):=(zAB BK115.out 1).trans rfl;have hfz33_0:=zAA BK115.out 0;have hfz33_1:=zAA BK115.out 1))
   repeat (go_quiet (first|((with_reducible refine zAZ (N:=4) rfl ?_);(try (refine zAl (by rfl) ?_;dsimp only));refine zAW ?hg (N:=4) ?hd (cs:=#[.int .i64 0,.int .i64 0]) (t:=45) ?hr ?_;(case hd=>rfl);(case hg=>rfl);(case hr=>first|(go_simp;done)|(go_simp;rfl));intro gb115 hg w32 hbox hb;have n0_:=aK_ (zAG (aH_ HB.out) hb);have n1_:=aK_ (hbox);have n2_:=aK_ ((by rw [hg];exact (zAD (aH_ HB.out)):w.heap.size≤gb115));have n3_:=aK_ ((by rw [hg];exact (zAD (aH_ HB.out)):w.heap.size≤gb115));clear HB;have HB:=n0_;have BK115:=n1_;have GW115:=n2_;have GE115:=n3_;clear n0_ n1_ n2_ n3_;clear hb hbox hg;have hcz33_0:w32.cell? ⟨gb115,0,none⟩=some (.int .i64 0):=(zAB BK115.out 0).trans rfl;have hcz33_1:w32.cell? ⟨gb115,1,none⟩=some (.int .i64 0):=(zAB BK115.out 1).trans rfl;have hfz33_0:=zAA BK115.out 0;have hfz33_1:=zAA BK115.out 1));try go_wp2_with (first|((with_reducible refine zAZ (N:=4) rfl ?_);(try (refine zAl (by rfl) ?_;dsimp only));refine zAW ?hg (N:=4) ?hd (cs:=#[.int .i64 0,.int .i64 0]) (t:=45) ?hr ?_;(case hd=>rfl);(case hg=>rfl);(case hr=>first|(go_simp;done)|(go_simp;rfl));intro gb115 hg w32 hbox hb;have n0_:=aK_ (zAG (aH_ HB.out) hb);have n1_:=aK_ (hbox);have n2_:=aK_ ((by rw [hg];exact (zAD (aH_ HB.out)):w.heap.size≤gb115));have n3_:=aK_ ((by rw [hg];exact (zAD (aH_ HB.out)):w.heap.size≤gb115));clear HB;have HB:=n0_;have BK115:=n1_;have GW115:=n2_;have GE115:=n3_;clear n0_ n1_ n2_ n3_;clear hb hbox hg;have hcz33_0:w32.cell? ⟨gb115,0,none⟩=some (.int .i64 0):=(zAB BK115.out 0).trans rfl;have hcz33_1:w32.cell? ⟨gb115,1,none⟩=some (.int .i64 0):=(zAB BK115.out 1).trans rfl;have hfz33_0:=zAA BK115.out 0;have hfz33_1:=zAA BK115.out 1)))
   go_ret
   exact ⟨by first|rfl|(simp [zAE,zAF] <;> rfl)|(simp [*,zAE,zAF] <;> rfl),aI_ HB.out GE115.out⟩
  rw [if_neg c31] at H
  have c31b0:decide (((zAe l0 x22_2).f1)<(-1000000000000))=false:=decide_eq_false c31
  clear c31
  by_cases c34:((zAe l0 x22_2).f1) > 1000000000000
  ·rw [if_pos c34] at H
   have c34b0:decide (1000000000000<((zAe l0 x22_2).f1))=true:=decide_eq_true c34
   clear c34
   obtain rfl:=Option.some.inj H
   have p114:0≤(x22_2:Int):=aD_
   have q114:x22_2<(l0.length:Int):=aD_
   obtain ⟨ad114,e114,hx114_0,hx114_1⟩:=at_T45 HR0.out x22_2 p114 q114
   cases e114
   replace hx114_0:=(HB.out.cell (World.block_lt_of_cell? w _ hx114_0)).trans hx114_0
   replace hx114_1:=(HB.out.cell (World.block_lt_of_cell? w _ hx114_1)).trans hx114_1
   replace p114:=eq_true p114
   replace q114:=eq_true q114
   go_wp2_with (first|((with_reducible refine zAZ (N:=4) rfl ?_);(try (refine zAl (by rfl) ?_;dsimp only));refine zAW ?hg (N:=4) ?hd (cs:=#[.int .i64 0,.int .i64 0]) (t:=45) ?hr ?_;(case hd=>rfl);(case hg=>rfl);(case hr=>first|(go_simp;done)|(go_simp;rfl));intro gb115 hg w35 hbox hb;have n0_:=aK_ (zAG (aH_ HB.out) hb);have n1_:=aK_ (hbox);have n2_:=aK_ ((by rw [hg];exact (zAD (aH_ HB.out)):w.heap.size≤gb115));have n3_:=aK_ ((by rw [hg];exact (zAD (aH_ HB.out)):w.heap.size≤gb115));clear HB;have HB:=n0_;have BK115:=n1_;have GW115:=n2_;have GE115:=n3_;clear n0_ n1_ n2_ n3_;clear hb hbox hg;have hcz36_0:w35.cell? ⟨gb115,0,none⟩=some (.int .i64 0):=(zAB BK115.out 0).trans rfl;have hcz36_1:w35.cell? ⟨gb115,1,none⟩=some (.int .i64 0):=(zAB BK115.out 1).trans rfl;have hfz36_0:=zAA BK115.out 0;have hfz36_1:=zAA BK115.out 1))
   repeat (go_quiet (first|((with_reducible refine zAZ (N:=4) rfl ?_);(try (refine zAl (by rfl) ?_;dsimp only));refine zAW ?hg (N:=4) ?hd (cs:=#[.int .i64 0,.int .i64 0]) (t:=45) ?hr ?_;(case hd=>rfl);(case hg=>rfl);(case hr=>first|(go_simp;done)|(go_simp;rfl));intro gb115 hg w35 hbox hb;have n0_:=aK_ (zAG (aH_ HB.out) hb);have n1_:=aK_ (hbox);have n2_:=aK_ ((by rw [hg];exact (zAD (aH_ HB.out)):w.heap.size≤gb115));have n3_:=aK_ ((by rw [hg];exact (zAD (aH_ HB.out)):w.heap.size≤gb115));clear HB;have HB:=n0_;have BK115:=n1_;have GW115:=n2_;have GE115:=n3_;clear n0_ n1_ n2_ n3_;clear hb hbox hg;have hcz36_0:w35.cell? ⟨gb115,0,none⟩=some (.int .i64 0):=(zAB BK115.out 0).trans rfl;have hcz36_1:w35.cell? ⟨gb115,1,none⟩=some (.int .i64 0):=(zAB BK115.out 1).trans rfl;have hfz36_0:=zAA BK115.out 0;have hfz36_1:=zAA BK115.out 1));try go_wp2_with (first|((with_reducible refine zAZ (N:=4) rfl ?_);(try (refine zAl (by rfl) ?_;dsimp only));refine zAW ?hg (N:=4) ?hd (cs:=#[.int .i64 0,.int .i64 0]) (t:=45) ?hr ?_;(case hd=>rfl);(case hg=>rfl);(case hr=>first|(go_simp;done)|(go_simp;rfl));intro gb115 hg w35 hbox hb;have n0_:=aK_ (zAG (aH_ HB.out) hb);have n1_:=aK_ (hbox);have n2_:=aK_ ((by rw [hg];exact (zAD (aH_ HB.out)):w.heap.size≤gb115));have n3_:=aK_ ((by rw [hg];exact (zAD (aH_ HB.out)):w.heap.size≤gb115));clear HB;have HB:=n0_;have BK115:=n1_;have GW115:=n2_;have GE115:=n3_;clear n0_ n1_ n2_ n3_;clear hb hbox hg;have hcz36_0:w35.cell? ⟨gb115,0,none⟩=some (.int .i64 0):=(zAB BK115.out 0).trans rfl;have hcz36_1:w35.cell? ⟨gb115,1,none⟩=some (.int .i64 0):=(zAB BK115.out 1).trans rfl;have hfz36_0:=zAA BK115.out 0;have hfz36_1:=zAA BK115.out 1)))
   go_ret
   exact ⟨by first|rfl|(simp [zAE,zAF] <;> rfl)|(simp [*,zAE,zAF] <;> rfl),aI_ HB.out GE115.out⟩
  rw [if_neg c34] at H
  have c34b0:decide (1000000000000<((zAe l0 x22_2).f1))=false:=decide_eq_false c34
  clear c34
  have H':=aK_ H
  clear H
  have p114:0≤(x22_2:Int):=aD_
  have q114:x22_2<(l0.length:Int):=aD_
  obtain ⟨ad114,e114,hx114_0,hx114_1⟩:=at_T45 HR0.out x22_2 p114 q114
  cases e114
  replace hx114_0:=(HB.out.cell (World.block_lt_of_cell? w _ hx114_0)).trans hx114_0
  replace hx114_1:=(HB.out.cell (World.block_lt_of_cell? w _ hx114_1)).trans hx114_1
  replace p114:=eq_true p114
  replace q114:=eq_true q114
  go_wp2_with (first|((with_reducible refine zAZ (N:=4) rfl ?_);(try (refine zAl (by rfl) ?_;dsimp only));refine zAW ?hg (N:=4) ?hd (cs:=#[.int .i64 0,.int .i64 0]) (t:=45) ?hr ?_;(case hd=>rfl);(case hg=>rfl);(case hr=>first|(go_simp;done)|(go_simp;rfl));intro gb115 hg w37 hbox hb;have n0_:=aK_ (zAG (aH_ HB.out) hb);have n1_:=aK_ (hbox);have n2_:=aK_ ((by rw [hg];exact (zAD (aH_ HB.out)):w.heap.size≤gb115));have n3_:=aK_ ((by rw [hg];exact (zAD (aH_ HB.out)):w.heap.size≤gb115));clear HB;have HB:=n0_;have BK115:=n1_;have GW115:=n2_;have GE115:=n3_;clear n0_ n1_ n2_ n3_;clear hb hbox hg;have hcz38_0:w37.cell? ⟨gb115,0,none⟩=some (.int .i64 0):=(zAB BK115.out 0).trans rfl;have hcz38_1:w37.cell? ⟨gb115,1,none⟩=some (.int .i64 0):=(zAB BK115.out 1).trans rfl;have hfz38_0:=zAA BK115.out 0;have hfz38_1:=zAA BK115.out 1))
  repeat (go_quiet (first|((with_reducible refine zAZ (N:=4) rfl ?_);(try (refine zAl (by rfl) ?_;dsimp only));refine zAW ?hg (N:=4) ?hd (cs:=#[.int .i64 0,.int .i64 0]) (t:=45) ?hr ?_;(case hd=>rfl);(case hg=>rfl);(case hr=>first|(go_simp;done)|(go_simp;rfl));intro gb115 hg w37 hbox hb;have n0_:=aK_ (zAG (aH_ HB.out) hb);have n1_:=aK_ (hbox);have n2_:=aK_ ((by rw [hg];exact (zAD (aH_ HB.out)):w.heap.size≤gb115));have n3_:=aK_ ((by rw [hg];exact (zAD (aH_ HB.out)):w.heap.size≤gb115));clear HB;have HB:=n0_;have BK115:=n1_;have GW115:=n2_;have GE115:=n3_;clear n0_ n1_ n2_ n3_;clear hb hbox hg;have hcz38_0:w37.cell? ⟨gb115,0,none⟩=some (.int .i64 0):=(zAB BK115.out 0).trans rfl;have hcz38_1:w37.cell? ⟨gb115,1,none⟩=some (.int .i64 0):=(zAB BK115.out 1).trans rfl;have hfz38_0:=zAA BK115.out 0;have hfz38_1:=zAA BK115.out 1));try go_wp2_with (first|((with_reducible refine zAZ (N:=4) rfl ?_);(try (refine zAl (by rfl) ?_;dsimp only));refine zAW ?hg (N:=4) ?hd (cs:=#[.int .i64 0,.int .i64 0]) (t:=45) ?hr ?_;(case hd=>rfl);(case hg=>rfl);(case hr=>first|(go_simp;done)|(go_simp;rfl));intro gb115 hg w37 hbox hb;have n0_:=aK_ (zAG (aH_ HB.out) hb);have n1_:=aK_ (hbox);have n2_:=aK_ ((by rw [hg];exact (zAD (aH_ HB.out)):w.heap.size≤gb115));have n3_:=aK_ ((by rw [hg];exact (zAD (aH_ HB.out)):w.heap.size≤gb115));clear HB;have HB:=n0_;have BK115:=n1_;have GW115:=n2_;have GE115:=n3_;clear n0_ n1_ n2_ n3_;clear hb hbox hg;have hcz38_0:w37.cell? ⟨gb115,0,none⟩=some (.int .i64 0):=(zAB BK115.out 0).trans rfl;have hcz38_1:w37.cell? ⟨gb115,1,none⟩=some (.int .i64 0):=(zAB BK115.out 1).trans rfl;have hfz38_0:=zAA BK115.out 0;have hfz38_1:=zAA BK115.out 1)))
  go_roundg k2
  case measure=>have:=HJ1.out;have:=HK2.out;omega
  case rel=>exact ⟨(wrap64 (x22_2+1)),aS2_,H',⟨by have:=HJ1.out;have:=HK2.out;omega⟩,⟨aI_ HB.out GE115.out⟩⟩
 rw [if_pos c10] at H
 have c10b0:decide (0<x22_2)=true:=decide_eq_true c10
 clear c10
 obtain ⟨ji11,hji11⟩:∃ j_:Int,(wrap64 (x22_2 - 1))=j_:=⟨_,rfl⟩
 replace H:(if 0≤(ji11) then (if (ji11)<(l0.length:Int) then (if ((zAe l0 x22_2).f0)≤((zAe l0 (ji11)).f0) then (some false) else (if ((zAe l0 x22_2).f0) > 1000000000000 then (some false) else (if ((zAe l0 x22_2).f1)<(-1000000000000) then (some false) else (if ((zAe l0 x22_2).f1) > 1000000000000 then (some false) else (tree_rising.l0 k2 l0 l0 (l0.length:Int) (wrap64 (x22_2+1))))))) else (none)) else (none))=some r:=by first|(rw [hji11] at H;exact H)|(simp only [hji11] at H ⊢;exact H)
 have hji11w:(IntKind.i64.wrap (x22_2 - 1))=ji11:=(i64_w _).trans hji11
 have c12:=yes_ H
 rw [if_pos c12] at H
 have c12b0:decide (0≤(ji11))=true:=decide_eq_true c12
 clear c12
 have c13:=yes_ H
 rw [if_pos c13] at H
 have c13b0:decide ((ji11)<(l0.length:Int))=true:=decide_eq_true c13
 clear c13
 by_cases c14:((zAe l0 x22_2).f0)≤((zAe l0 (ji11)).f0)
 ·rw [if_pos c14] at H
  have c14b0:decide (((zAe l0 x22_2).f0)≤((zAe l0 (ji11)).f0))=true:=decide_eq_true c14
  clear c14
  obtain rfl:=Option.some.inj H
  have p114:0≤(x22_2:Int):=aD_
  have q114:x22_2<(l0.length:Int):=aD_
  obtain ⟨ad114,e114,hx114_0,hx114_1⟩:=at_T45 HR0.out x22_2 p114 q114
  cases e114
  replace hx114_0:=(HB.out.cell (World.block_lt_of_cell? w _ hx114_0)).trans hx114_0
  replace hx114_1:=(HB.out.cell (World.block_lt_of_cell? w _ hx114_1)).trans hx114_1
  replace p114:=eq_true p114
  replace q114:=eq_true q114
  go_wp2_with (first|((with_reducible refine zAZ (N:=4) rfl ?_);(try (refine zAl (by rfl) ?_;dsimp only));refine zAW ?hg (N:=4) ?hd (cs:=#[.int .i64 0,.int .i64 0]) (t:=45) ?hr ?_;(case hd=>rfl);(case hg=>rfl);(case hr=>first|(go_simp;done)|(go_simp;rfl));intro gb115 hg w15 hbox hb;have n0_:=aK_ (zAG (aH_ HB.out) hb);have n1_:=aK_ (hbox);have n2_:=aK_ ((by rw [hg];exact (zAD (aH_ HB.out)):w.heap.size≤gb115));have n3_:=aK_ ((by rw [hg];exact (zAD (aH_ HB.out)):w.heap.size≤gb115));clear HB;have HB:=n0_;have BK115:=n1_;have GW115:=n2_;have GE115:=n3_;clear n0_ n1_ n2_ n3_;clear hb hbox hg;have hcz16_0:w15.cell? ⟨gb115,0,none⟩=some (.int .i64 0):=(zAB BK115.out 0).trans rfl;have hcz16_1:w15.cell? ⟨gb115,1,none⟩=some (.int .i64 0):=(zAB BK115.out 1).trans rfl;have hfz16_0:=zAA BK115.out 0;have hfz16_1:=zAA BK115.out 1;have p116:0≤((ji11):Int):=aD_;have q116:(ji11)<(l0.length:Int):=aD_;obtain ⟨ad116,e116,hx116_0,hx116_1⟩:=at_T45 HR0.out (ji11) p116 q116;obtain rfl:ad114=ad116:=(by injection e116);have hn116_0:ad114.block≠gb115:=Nat.ne_of_lt (Nat.lt_of_lt_of_le (by have:=World.block_lt_of_cell? _ _ hx116_0;first|rwa [zAS] at this|exact this) GW115.out);have hn116_1:ad114.block≠gb115:=Nat.ne_of_lt (Nat.lt_of_lt_of_le (by have:=World.block_lt_of_cell? _ _ hx116_0;first|rwa [zAS] at this|exact this) GW115.out);replace hx116_0:=(HB.out.cell (World.block_lt_of_cell? w _ hx116_0)).trans hx116_0;replace hx116_1:=(HB.out.cell (World.block_lt_of_cell? w _ hx116_1)).trans hx116_1;replace hx116_0:=(cell_far (p:=⟨gb115,0,none⟩) (by first|(rw [zAS];exact hn116_0)|(show (Addr.add _ _).block≠_;rw [zAS];exact hn116_0)|exact hn116_0) (.int .i64 ((zAe l0 x22_2).f0))).trans hx116_0;replace hx116_1:=(cell_far (p:=⟨gb115,0,none⟩) (by first|(rw [zAS];exact hn116_0)|(show (Addr.add _ _).block≠_;rw [zAS];exact hn116_0)|exact hn116_0) (.int .i64 ((zAe l0 x22_2).f0))).trans hx116_1;replace hx116_0:=(cell_far (p:=⟨gb115,1,none⟩) (by first|(rw [zAS];exact hn116_1)|(show (Addr.add _ _).block≠_;rw [zAS];exact hn116_1)|exact hn116_1) (.int .i64 ((zAe l0 x22_2).f1))).trans hx116_0;replace hx116_1:=(cell_far (p:=⟨gb115,1,none⟩) (by first|(rw [zAS];exact hn116_1)|(show (Addr.add _ _).block≠_;rw [zAS];exact hn116_1)|exact hn116_1) (.int .i64 ((zAe l0 x22_2).f1))).trans hx116_1;(try have hy116_0:=fun (n_:Nat)=>(show ((((w15.drewN n_).setCell ⟨gb115,0,none⟩ (.int .i64 ((zAe l0 x22_2).f0))).setCell ⟨gb115,1,none⟩ (.int .i64 ((zAe l0 x22_2).f1)))).cell? _=some _ from hx116_0));(try have hy116_1:=fun (n_:Nat)=>(show ((((w15.drewN n_).setCell ⟨gb115,0,none⟩ (.int .i64 ((zAe l0 x22_2).f0))).setCell ⟨gb115,1,none⟩ (.int .i64 ((zAe l0 x22_2).f1)))).cell? _=some _ from hx116_1));clear hn116_0;clear hn116_1;replace p116:=eq_true p116;replace q116:=eq_true q116))
  repeat (go_quiet (first|((with_reducible refine zAZ (N:=4) rfl ?_);(try (refine zAl (by rfl) ?_;dsimp only));refine zAW ?hg (N:=4) ?hd (cs:=#[.int .i64 0,.int .i64 0]) (t:=45) ?hr ?_;(case hd=>rfl);(case hg=>rfl);(case hr=>first|(go_simp;done)|(go_simp;rfl));intro gb115 hg w15 hbox hb;have n0_:=aK_ (zAG (aH_ HB.out) hb);have n1_:=aK_ (hbox);have n2_:=aK_ ((by rw [hg];exact (zAD (aH_ HB.out)):w.heap.size≤gb115));have n3_:=aK_ ((by rw [hg];exact (zAD (aH_ HB.out)):w.heap.size≤gb115));clear HB;have HB:=n0_;have BK115:=n1_;have GW115:=n2_;have GE115:=n3_;clear n0_ n1_ n2_ n3_;clear hb hbox hg;have hcz16_0:w15.cell? ⟨gb115,0,none⟩=some (.int .i64 0):=(zAB BK115.out 0).trans rfl;have hcz16_1:w15.cell? ⟨gb115,1,none⟩=some (.int .i64 0):=(zAB BK115.out 1).trans rfl;have hfz16_0:=zAA BK115.out 0;have hfz16_1:=zAA BK115.out 1;have p116:0≤((ji11):Int):=aD_;have q116:(ji11)<(l0.length:Int):=aD_;obtain ⟨ad116,e116,hx116_0,hx116_1⟩:=at_T45 HR0.out (ji11) p116 q116;obtain rfl:ad114=ad116:=(by injection e116);have hn116_0:ad114.block≠gb115:=Nat.ne_of_lt (Nat.lt_of_lt_of_le (by have:=World.block_lt_of_cell? _ _ hx116_0;first|rwa [zAS] at this|exact this) GW115.out);have hn116_1:ad114.block≠gb115:=Nat.ne_of_lt (Nat.lt_of_lt_of_le (by have:=World.block_lt_of_cell? _ _ hx116_0;first|rwa [zAS] at this|exact this) GW115.out);replace hx116_0:=(HB.out.cell (World.block_lt_of_cell? w _ hx116_0)).trans hx116_0;replace hx116_1:=(HB.out.cell (World.block_lt_of_cell? w _ hx116_1)).trans hx116_1;replace hx116_0:=(cell_far (p:=⟨gb115,0,none⟩) (by first|(rw [zAS];exact hn116_0)|(show (Addr.add _ _).block≠_;rw [zAS];exact hn116_0)|exact hn116_0) (.int .i64 ((zAe l0 x22_2).f0))).trans hx116_0;replace hx116_1:=(cell_far (p:=⟨gb115,0,none⟩) (by first|(rw [zAS];exact hn116_0)|(show (Addr.add _ _).block≠_;rw [zAS];exact hn116_0)|exact hn116_0) (.int .i64 ((zAe l0 x22_2).f0))).trans hx116_1;replace hx116_0:=(cell_far (p:=⟨gb115,1,none⟩) (by first|(rw [zAS];exact hn116_1)|(show (Addr.add _ _).block≠_;rw [zAS];exact hn116_1)|exact hn116_1) (.int .i64 ((zAe l0 x22_2).f1))).trans hx116_0;replace hx116_1:=(cell_far (p:=⟨gb115,1,none⟩) (by first|(rw [zAS];exact hn116_1)|(show (Addr.add _ _).block≠_;rw [zAS];exact hn116_1)|exact hn116_1) (.int .i64 ((zAe l0 x22_2).f1))).trans hx116_1;(try have hy116_0:=fun (n_:Nat)=>(show ((((w15.drewN n_).setCell ⟨gb115,0,none⟩ (.int .i64 ((zAe l0 x22_2).f0))).setCell ⟨gb115,1,none⟩ (.int .i64 ((zAe l0 x22_2).f1)))).cell? _=some _ from hx116_0));(try have hy116_1:=fun (n_:Nat)=>(show ((((w15.drewN n_).setCell ⟨gb115,0,none⟩ (.int .i64 ((zAe l0 x22_2).f0))).setCell ⟨gb115,1,none⟩ (.int .i64 ((zAe l0 x22_2).f1)))).cell? _=some _ from hx116_1));clear hn116_0;clear hn116_1;replace p116:=eq_true p116;replace q116:=eq_true q116));try go_wp2_with (first|((with_reducible refine zAZ (N:=4) rfl ?_);(try (refine zAl (by rfl) ?_;dsimp only));refine zAW ?hg (N:=4) ?hd (cs:=#[.int .i64 0,.int .i64 0]) (t:=45) ?hr ?_;(case hd=>rfl);(case hg=>rfl);(case hr=>first|(go_simp;done)|(go_simp;rfl));intro gb115 hg w15 hbox hb;have n0_:=aK_ (zAG (aH_ HB.out) hb);have n1_:=aK_ (hbox);have n2_:=aK_ ((by rw [hg];exact (zAD (aH_ HB.out)):w.heap.size≤gb115));have n3_:=aK_ ((by rw [hg];exact (zAD (aH_ HB.out)):w.heap.size≤gb115));clear HB;have HB:=n0_;have BK115:=n1_;have GW115:=n2_;have GE115:=n3_;clear n0_ n1_ n2_ n3_;clear hb hbox hg;have hcz16_0:w15.cell? ⟨gb115,0,none⟩=some (.int .i64 0):=(zAB BK115.out 0).trans rfl;have hcz16_1:w15.cell? ⟨gb115,1,none⟩=some (.int .i64 0):=(zAB BK115.out 1).trans rfl;have hfz16_0:=zAA BK115.out 0;have hfz16_1:=zAA BK115.out 1;have p116:0≤((ji11):Int):=aD_;have q116:(ji11)<(l0.length:Int):=aD_;obtain ⟨ad116,e116,hx116_0,hx116_1⟩:=at_T45 HR0.out (ji11) p116 q116;obtain rfl:ad114=ad116:=(by injection e116);have hn116_0:ad114.block≠gb115:=Nat.ne_of_lt (Nat.lt_of_lt_of_le (by have:=World.block_lt_of_cell? _ _ hx116_0;first|rwa [zAS] at this|exact this) GW115.out);have hn116_1:ad114.block≠gb115:=Nat.ne_of_lt (Nat.lt_of_lt_of_le (by have:=World.block_lt_of_cell? _ _ hx116_0;first|rwa [zAS] at this|exact this) GW115.out);replace hx116_0:=(HB.out.cell (World.block_lt_of_cell? w _ hx116_0)).trans hx116_0;replace hx116_1:=(HB.out.cell (World.block_lt_of_cell? w _ hx116_1)).trans hx116_1;replace hx116_0:=(cell_far (p:=⟨gb115,0,none⟩) (by first|(rw [zAS];exact hn116_0)|(show (Addr.add _ _).block≠_;rw [zAS];exact hn116_0)|exact hn116_0) (.int .i64 ((zAe l0 x22_2).f0))).trans hx116_0;replace hx116_1:=(cell_far (p:=⟨gb115,0,none⟩) (by first|(rw [zAS];exact hn116_0)|(show (Addr.add _ _).block≠_;rw [zAS];exact hn116_0)|exact hn116_0) (.int .i64 ((zAe l0 x22_2).f0))).trans hx116_1;replace hx116_0:=(cell_far (p:=⟨gb115,1,none⟩) (by first|(rw [zAS];exact hn116_1)|(show (Addr.add _ _).block≠_;rw [zAS];exact hn116_1)|exact hn116_1) (.int .i64 ((zAe l0 x22_2).f1))).trans hx116_0;replace hx116_1:=(cell_far (p:=⟨gb115,1,none⟩) (by first|(rw [zAS];exact hn116_1)|(show (Addr.add _ _).block≠_;rw [zAS];exact hn116_1)|exact hn116_1) (.int .i64 ((zAe l0 x22_2).f1))).trans hx116_1;(try have hy116_0:=fun (n_:Nat)=>(show ((((w15.drewN n_).setCell ⟨gb115,0,none⟩ (.int .i64 ((zAe l0 x22_2).f0))).setCell ⟨gb115,1,none⟩ (.int .i64 ((zAe l0 x22_2).f1)))).cell? _=some _ from hx116_0));(try have hy116_1:=fun (n_:Nat)=>(show ((((w15.drewN n_).setCell ⟨gb115,0,none⟩ (.int .i64 ((zAe l0 x22_2).f0))).setCell ⟨gb115,1,none⟩ (.int .i64 ((zAe l0 x22_2).f1)))).cell? _=some _ from hx116_1));clear hn116_0;clear hn116_1;replace p116:=eq_true p116;replace q116:=eq_true q116)))
  go_ret
  exact ⟨by first|rfl|(simp [zAE,zAF] <;> rfl)|(simp only [← hji11];first|rfl|(simp [zAE,zAF] <;> rfl))|(simp [*,zAE,zAF] <;> rfl),aI_ HB.out GE115.out⟩
 rw [if_neg c14] at H
 have c14b0:decide (((zAe l0 x22_2).f0)≤((zAe l0 (ji11)).f0))=false:=decide_eq_false c14
 clear c14
 by_cases c17:((zAe l0 x22_2).f0) > 1000000000000
 ·rw [if_pos c17] at H
  have c17b0:decide (1000000000000<((zAe l0 x22_2).f0))=true:=decide_eq_true c17
  clear c17
  obtain rfl:=Option.some.inj H
  have p114:0≤(x22_2:Int):=aD_
  have q114:x22_2<(l0.length:Int):=aD_
  obtain ⟨ad114,e114,hx114_0,hx114_1⟩:=at_T45 HR0.out x22_2 p114 q114
  cases e114
  replace hx114_0:=(HB.out.cell (World.block_lt_of_cell? w _ hx114_0)).trans hx114_0
  replace hx114_1:=(HB.out.cell (World.block_lt_of_cell? w _ hx114_1)).trans hx114_1
  replace p114:=eq_true p114
  replace q114:=eq_true q114
  go_wp2_with (first|((with_reducible refine zAZ (N:=4) rfl ?_);(try (refine zAl (by rfl) ?_;dsimp only));refine zAW ?hg (N:=4) ?hd (cs:=#[.int .i64 0,.int .i64 0]) (t:=45) ?hr ?_;(case hd=>rfl);(case hg=>rfl);(case hr=>first|(go_simp;done)|(go_simp;rfl));intro gb115 hg w18 hbox hb;have n0_:=aK_ (zAG (aH_ HB.out) hb);have n1_:=aK_ (hbox);have n2_:=aK_ ((by rw [hg];exact (zAD (aH_ HB.out)):w.heap.size≤gb115));have n3_:=aK_ ((by rw [hg];exact (zAD (aH_ HB.out)):w.heap.size≤gb115));clear HB;have HB:=n0_;have BK115:=n1_;have GW115:=n2_;have GE115:=n3_;clear n0_ n1_ n2_ n3_;clear hb hbox hg;have hcz19_0:w18.cell? ⟨gb115,0,none⟩=some (.int .i64 0):=(zAB BK115.out 0).trans rfl;have hcz19_1:w18.cell? ⟨gb115,1,none⟩=some (.int .i64 0):=(zAB BK115.out 1).trans rfl;have hfz19_0:=zAA BK115.out 0;have hfz19_1:=zAA BK115.out 1;have p116:0≤((ji11):Int):=aD_;have q116:(ji11)<(l0.length:Int):=aD_;obtain ⟨ad116,e116,hx116_0,hx116_1⟩:=at_T45 HR0.out (ji11) p116 q116;obtain rfl:ad114=ad116:=(by injection e116);have hn116_0:ad114.block≠gb115:=Nat.ne_of_lt (Nat.lt_of_lt_of_le (by have:=World.block_lt_of_cell? _ _ hx116_0;first|rwa [zAS] at this|exact this) GW115.out);have hn116_1:ad114.block≠gb115:=Nat.ne_of_lt (Nat.lt_of_lt_of_le (by have:=World.block_lt_of_cell? _ _ hx116_0;first|rwa [zAS] at this|exact this) GW115.out);replace hx116_0:=(HB.out.cell (World.block_lt_of_cell? w _ hx116_0)).trans hx116_0;replace hx116_1:=(HB.out.cell (World.block_lt_of_cell? w _ hx116_1)).trans hx116_1;replace hx116_0:=(cell_far (p:=⟨gb115,0,none⟩) (by first|(rw [zAS];exact hn116_0)|(show (Addr.add _ _).block≠_;rw [zAS];exact hn116_0)|exact hn116_0) (.int .i64 ((zAe l0 x22_2).f0))).trans hx116_0;replace hx116_1:=(cell_far (p:=⟨gb115,0,none⟩) (by first|(rw [zAS];exact hn116_0)|(show (Addr.add _ _).block≠_;rw [zAS];exact hn116_0)|exact hn116_0) (.int .i64 ((zAe l0 x22_2).f0))).trans hx116_1;replace hx116_0:=(cell_far (p:=⟨gb115,1,none⟩) (by first|(rw [zAS];exact hn116_1)|(show (Addr.add _ _).block≠_;rw [zAS];exact hn116_1)|exact hn116_1) (.int .i64 ((zAe l0 x22_2).f1))).trans hx116_0;replace hx116_1:=(cell_far (p:=⟨gb115,1,none⟩) (by first|(rw [zAS];exact hn116_1)|(show (Addr.add _ _).block≠_;rw [zAS];exact hn116_1)|exact hn116_1) (.int .i64 ((zAe l0 x22_2).f1))).trans hx116_1;(try have hy116_0:=fun (n_:Nat)=>(show ((((w18.drewN n_).setCell ⟨gb115,0,none⟩ (.int .i64 ((zAe l0 x22_2).f0))).setCell ⟨gb115,1,none⟩ (.int .i64 ((zAe l0 x22_2).f1)))).cell? _=some _ from hx116_0));(try have hy116_1:=fun (n_:Nat)=>(show ((((w18.drewN n_).setCell ⟨gb115,0,none⟩ (.int .i64 ((zAe l0 x22_2).f0))).setCell ⟨gb115,1,none⟩ (.int .i64 ((zAe l0 x22_2).f1)))).cell? _=some _ from hx116_1));clear hn116_0;clear hn116_1;replace p116:=eq_true p116;replace q116:=eq_true q116))
  repeat (go_quiet (first|((with_reducible refine zAZ (N:=4) rfl ?_);(try (refine zAl (by rfl) ?_;dsimp only));refine zAW ?hg (N:=4) ?hd (cs:=#[.int .i64 0,.int .i64 0]) (t:=45) ?hr ?_;(case hd=>rfl);(case hg=>rfl);(case hr=>first|(go_simp;done)|(go_simp;rfl));intro gb115 hg w18 hbox hb;have n0_:=aK_ (zAG (aH_ HB.out) hb);have n1_:=aK_ (hbox);have n2_:=aK_ ((by rw [hg];exact (zAD (aH_ HB.out)):w.heap.size≤gb115));have n3_:=aK_ ((by rw [hg];exact (zAD (aH_ HB.out)):w.heap.size≤gb115));clear HB;have HB:=n0_;have BK115:=n1_;have GW115:=n2_;have GE115:=n3_;clear n0_ n1_ n2_ n3_;clear hb hbox hg;have hcz19_0:w18.cell? ⟨gb115,0,none⟩=some (.int .i64 0):=(zAB BK115.out 0).trans rfl;have hcz19_1:w18.cell? ⟨gb115,1,none⟩=some (.int .i64 0):=(zAB BK115.out 1).trans rfl;have hfz19_0:=zAA BK115.out 0;have hfz19_1:=zAA BK115.out 1;have p116:0≤((ji11):Int):=aD_;have q116:(ji11)<(l0.length:Int):=aD_;obtain ⟨ad116,e116,hx116_0,hx116_1⟩:=at_T45 HR0.out (ji11) p116 q116;obtain rfl:ad114=ad116:=(by injection e116);have hn116_0:ad114.block≠gb115:=Nat.ne_of_lt (Nat.lt_of_lt_of_le (by have:=World.block_lt_of_cell? _ _ hx116_0;first|rwa [zAS] at this|exact this) GW115.out);have hn116_1:ad114.block≠gb115:=Nat.ne_of_lt (Nat.lt_of_lt_of_le (by have:=World.block_lt_of_cell? _ _ hx116_0;first|rwa [zAS] at this|exact this) GW115.out);replace hx116_0:=(HB.out.cell (World.block_lt_of_cell? w _ hx116_0)).trans hx116_0;replace hx116_1:=(HB.out.cell (World.block_lt_of_cell? w _ hx116_1)).trans hx116_1;replace hx116_0:=(cell_far (p:=⟨gb115,0,none⟩) (by first|(rw [zAS];exact hn116_0)|(show (Addr.add _ _).block≠_;rw [zAS];exact hn116_0)|exact hn116_0) (.int .i64 ((zAe l0 x22_2).f0))).trans hx116_0;replace hx116_1:=(cell_far (p:=⟨gb115,0,none⟩) (by first|(rw [zAS];exact hn116_0)|(show (Addr.add _ _).block≠_;rw [zAS];exact hn116_0)|exact hn116_0) (.int .i64 ((zAe l0 x22_2).f0))).trans hx116_1;replace hx116_0:=(cell_far (p:=⟨gb115,1,none⟩) (by first|(rw [zAS];exact hn116_1)|(show (Addr.add _ _).block≠_;rw [zAS];exact hn116_1)|exact hn116_1) (.int .i64 ((zAe l0 x22_2).f1))).trans hx116_0;replace hx116_1:=(cell_far (p:=⟨gb115,1,none⟩) (by first|(rw [zAS];exact hn116_1)|(show (Addr.add _ _).block≠_;rw [zAS];exact hn116_1)|exact hn116_1) (.int .i64 ((zAe l0 x22_2).f1))).trans hx116_1;(try have hy116_0:=fun (n_:Nat)=>(show ((((w18.drewN n_).setCell ⟨gb115,0,none⟩ (.int .i64 ((zAe l0 x22_2).f0))).setCell ⟨gb115,1,none⟩ (.int .i64 ((zAe l0 x22_2).f1)))).cell? _=some _ from hx116_0));(try have hy116_1:=fun (n_:Nat)=>(show ((((w18.drewN n_).setCell ⟨gb115,0,none⟩ (.int .i64 ((zAe l0 x22_2).f0))).setCell ⟨gb115,1,none⟩ (.int .i64 ((zAe l0 x22_2).f1)))).cell? _=some _ from hx116_1));clear hn116_0;clear hn116_1;replace p116:=eq_true p116;replace q116:=eq_true q116));try go_wp2_with (first|((with_reducible refine zAZ (N:=4) rfl ?_);(try (refine zAl (by rfl) ?_;dsimp only));refine zAW ?hg (N:=4) ?hd (cs:=#[.int .i64 0,.int .i64 0]) (t:=45) ?hr ?_;(case hd=>rfl);(case hg=>rfl);(case hr=>first|(go_simp;done)|(go_simp;rfl));intro gb115 hg w18 hbox hb;have n0_:=aK_ (zAG (aH_ HB.out) hb);have n1_:=aK_ (hbox);have n2_:=aK_ ((by rw [hg];exact (zAD (aH_ HB.out)):w.heap.size≤gb115));have n3_:=aK_ ((by rw [hg];exact (zAD (aH_ HB.out)):w.heap.size≤gb115));clear HB;have HB:=n0_;have BK115:=n1_;have GW115:=n2_;have GE115:=n3_;clear n0_ n1_ n2_ n3_;clear hb hbox hg;have hcz19_0:w18.cell? ⟨gb115,0,none⟩=some (.int .i64 0):=(zAB BK115.out 0).trans rfl;have hcz19_1:w18.cell? ⟨gb115,1,none⟩=some (.int .i64 0):=(zAB BK115.out 1).trans rfl;have hfz19_0:=zAA BK115.out 0;have hfz19_1:=zAA BK115.out 1;have p116:0≤((ji11):Int):=aD_;have q116:(ji11)<(l0.length:Int):=aD_;obtain ⟨ad116,e116,hx116_0,hx116_1⟩:=at_T45 HR0.out (ji11) p116 q116;obtain rfl:ad114=ad116:=(by injection e116);have hn116_0:ad114.block≠gb115:=Nat.ne_of_lt (Nat.lt_of_lt_of_le (by have:=World.block_lt_of_cell? _ _ hx116_0;first|rwa [zAS] at this|exact this) GW115.out);have hn116_1:ad114.block≠gb115:=Nat.ne_of_lt (Nat.lt_of_lt_of_le (by have:=World.block_lt_of_cell? _ _ hx116_0;first|rwa [zAS] at this|exact this) GW115.out);replace hx116_0:=(HB.out.cell (World.block_lt_of_cell? w _ hx116_0)).trans hx116_0;replace hx116_1:=(HB.out.cell (World.block_lt_of_cell? w _ hx116_1)).trans hx116_1;replace hx116_0:=(cell_far (p:=⟨gb115,0,none⟩) (by first|(rw [zAS];exact hn116_0)|(show (Addr.add _ _).block≠_;rw [zAS];exact hn116_0)|exact hn116_0) (.int .i64 ((zAe l0 x22_2).f0))).trans hx116_0;replace hx116_1:=(cell_far (p:=⟨gb115,0,none⟩) (by first|(rw [zAS];exact hn116_0)|(show (Addr.add _ _).block≠_;rw [zAS];exact hn116_0)|exact hn116_0) (.int .i64 ((zAe l0 x22_2).f0))).trans hx116_1;replace hx116_0:=(cell_far (p:=⟨gb115,1,none⟩) (by first|(rw [zAS];exact hn116_1)|(show (Addr.add _ _).block≠_;rw [zAS];exact hn116_1)|exact hn116_1) (.int .i64 ((zAe l0 x22_2).f1))).trans hx116_0;replace hx116_1:=(cell_far (p:=⟨gb115,1,none⟩) (by first|(rw [zAS];exact hn116_1)|(show (Addr.add _ _).block≠_;rw [zAS];exact hn116_1)|exact hn116_1) (.int .i64 ((zAe l0 x22_2).f1))).trans hx116_1;(try have hy116_0:=fun (n_:Nat)=>(show ((((w18.drewN n_).setCell ⟨gb115,0,none⟩ (.int .i64 ((zAe l0 x22_2).f0))).setCell ⟨gb115,1,none⟩ (.int .i64 ((zAe l0 x22_2).f1)))).cell? _=some _ from hx116_0));(try have hy116_1:=fun (n_:Nat)=>(show ((((w18.drewN n_).setCell ⟨gb115,0,none⟩ (.int .i64 ((zAe l0 x22_2).f0))).setCell ⟨gb115,1,none⟩ (.int .i64 ((zAe l0 x22_2).f1)))).cell? _=some _ from hx116_1));clear hn116_0;clear hn116_1;replace p116:=eq_true p116;replace q116:=eq_true q116)))
  go_ret
  exact ⟨by first|rfl|(simp [zAE,zAF] <;> rfl)|(simp only [← hji11];first|rfl|(simp [zAE,zAF] <;> rfl))|(simp [*,zAE,zAF] <;> rfl),aI_ HB.out GE115.out⟩
 rw [if_neg c17] at H
 have c17b0:decide (1000000000000<((zAe l0 x22_2).f0))=false:=decide_eq_false c17
 clear c17
 by_cases c20:((zAe l0 x22_2).f1)<(-1000000000000)
 ·rw [if_pos c20] at H
  have c20b0:decide (((zAe l0 x22_2).f1)<(-1000000000000))=true:=decide_eq_true c20
  clear c20
  obtain rfl:=Option.some.inj H
  have p114:0≤(x22_2:Int):=aD_
  have q114:x22_2<(l0.length:Int):=aD_
  obtain ⟨ad114,e114,hx114_0,hx114_1⟩:=at_T45 HR0.out x22_2 p114 q114
  cases e114
  replace hx114_0:=(HB.out.cell (World.block_lt_of_cell? w _ hx114_0)).trans hx114_0
  replace hx114_1:=(HB.out.cell (World.block_lt_of_cell? w _ hx114_1)).trans hx114_1
  replace p114:=eq_true p114
  replace q114:=eq_true q114
  go_wp2_with (first|((with_reducible refine zAZ (N:=4) rfl ?_);(try (refine zAl (by rfl) ?_;dsimp only));refine zAW ?hg (N:=4) ?hd (cs:=#[.int .i64 0,.int .i64 0]) (t:=45) ?hr ?_;(case hd=>rfl);(case hg=>rfl);(case hr=>first|(go_simp;done)|(go_simp;rfl));intro gb115 hg w21 hbox hb;have n0_:=aK_ (zAG (aH_ HB.out) hb);have n1_:=aK_ (hbox);have n2_:=aK_ ((by rw [hg];exact (zAD (aH_ HB.out)):w.heap.size≤gb115));have n3_:=aK_ ((by rw [hg];exact (zAD (aH_ HB.out)):w.heap.size≤gb115));clear HB;have HB:=n0_;have BK115:=n1_;have GW115:=n2_;have GE115:=n3_;clear n0_ n1_ n2_ n3_;clear hb hbox hg;have hcz22_0:w21.cell? ⟨gb115,0,none⟩=some (.int .i64 0):=(zAB BK115.out 0).trans rfl;have hcz22_1:w21.cell? ⟨gb115,1,none⟩=some (.int .i64 0):=(zAB BK115.out 1).trans rfl;have hfz22_0:=zAA BK115.out 0;have hfz22_1:=zAA BK115.out 1;have p116:0≤((ji11):Int):=aD_;have q116:(ji11)<(l0.length:Int):=aD_;obtain ⟨ad116,e116,hx116_0,hx116_1⟩:=at_T45 HR0.out (ji11) p116 q116;obtain rfl:ad114=ad116:=(by injection e116);have hn116_0:ad114.block≠gb115:=Nat.ne_of_lt (Nat.lt_of_lt_of_le (by have:=World.block_lt_of_cell? _ _ hx116_0;first|rwa [zAS] at this|exact this) GW115.out);have hn116_1:ad114.block≠gb115:=Nat.ne_of_lt (Nat.lt_of_lt_of_le (by have:=World.block_lt_of_cell? _ _ hx116_0;first|rwa [zAS] at this|exact this) GW115.out);replace hx116_0:=(HB.out.cell (World.block_lt_of_cell? w _ hx116_0)).trans hx116_0;replace hx116_1:=(HB.out.cell (World.block_lt_of_cell? w _ hx116_1)).trans hx116_1;replace hx116_0:=(cell_far (p:=⟨gb115,0,none⟩) (by first|(rw [zAS];exact hn116_0)|(show (Addr.add _ _).block≠_;rw [zAS];exact hn116_0)|exact hn116_0) (.int .i64 ((zAe l0 x22_2).f0))).trans hx116_0;replace hx116_1:=(cell_far (p:=⟨gb115,0,none⟩) (by first|(rw [zAS];exact hn116_0)|(show (Addr.add _ _).block≠_;rw [zAS];exact hn116_0)|exact hn116_0) (.int .i64 ((zAe l0 x22_2).f0))).trans hx116_1;replace hx116_0:=(cell_far (p:=⟨gb115,1,none⟩) (by first|(rw [zAS];exact hn116_1)|(show (Addr.add _ _).block≠_;rw [zAS];exact hn116_1)|exact hn116_1) (.int .i64 ((zAe l0 x22_2).f1))).trans hx116_0;replace hx116_1:=(cell_far (p:=⟨gb115,1,none⟩) (by first|(rw [zAS];exact hn116_1)|(show (Addr.add _ _).block≠_;rw [zAS];exact hn116_1)|exact hn116_1) (.int .i64 ((zAe l0 x22_2).f1))).trans hx116_1;(try have hy116_0:=fun (n_:Nat)=>(show ((((w21.drewN n_).setCell ⟨gb115,0,none⟩ (.int .i64 ((zAe l0 x22_2).f0))).setCell ⟨gb115,1,none⟩ (.int .i64 ((zAe l0 x22_2).f1)))).cell? _=some _ from hx116_0));(try have hy116_1:=fun (n_:Nat)=>(show ((((w21.drewN n_).setCell ⟨gb115,0,none⟩ (.int .i64 ((zAe l0 x22_2).f0))).setCell ⟨gb115,1,none⟩ (.int .i64 ((zAe l0 x22_2).f1)))).cell? _=some _ from hx116_1));clear hn116_0;clear hn116_1;replace p116:=eq_true p116;replace q116:=eq_true q116))
  repeat (go_quiet (first|((with_reducible refine zAZ (N:=4) rfl ?_);(try (refine zAl (by rfl) ?_;dsimp only));refine zAW ?hg (N:=4) ?hd (cs:=#[.int .i64 0,.int .i64 0]) (t:=45) ?hr ?_;(case hd=>rfl);(case hg=>rfl);(case hr=>first|(go_simp;done)|(go_simp;rfl));intro gb115 hg w21 hbox hb;have n0_:=aK_ (zAG (aH_ HB.out) hb);have n1_:=aK_ (hbox);have n2_:=aK_ ((by rw [hg];exact (zAD (aH_ HB.out)):w.heap.size≤gb115));have n3_:=aK_ ((by rw [hg];exact (zAD (aH_ HB.out)):w.heap.size≤gb115));clear HB;have HB:=n0_;have BK115:=n1_;have GW115:=n2_;have GE115:=n3_;clear n0_ n1_ n2_ n3_;clear hb hbox hg;have hcz22_0:w21.cell? ⟨gb115,0,none⟩=some (.int .i64 0):=(zAB BK115.out 0).trans rfl;have hcz22_1:w21.cell? ⟨gb115,1,none⟩=some (.int .i64 0):=(zAB BK115.out 1).trans rfl;have hfz22_0:=zAA BK115.out 0;have hfz22_1:=zAA BK115.out 1;have p116:0≤((ji11):Int):=aD_;have q116:(ji11)<(l0.length:Int):=aD_;obtain ⟨ad116,e116,hx116_0,hx116_1⟩:=at_T45 HR0.out (ji11) p116 q116;obtain rfl:ad114=ad116:=(by injection e116);have hn116_0:ad114.block≠gb115:=Nat.ne_of_lt (Nat.lt_of_lt_of_le (by have:=World.block_lt_of_cell? _ _ hx116_0;first|rwa [zAS] at this|exact this) GW115.out);have hn116_1:ad114.block≠gb115:=Nat.ne_of_lt (Nat.lt_of_lt_of_le (by have:=World.block_lt_of_cell? _ _ hx116_0;first|rwa [zAS] at this|exact this) GW115.out);replace hx116_0:=(HB.out.cell (World.block_lt_of_cell? w _ hx116_0)).trans hx116_0;replace hx116_1:=(HB.out.cell (World.block_lt_of_cell? w _ hx116_1)).trans hx116_1;replace hx116_0:=(cell_far (p:=⟨gb115,0,none⟩) (by first|(rw [zAS];exact hn116_0)|(show (Addr.add _ _).block≠_;rw [zAS];exact hn116_0)|exact hn116_0) (.int .i64 ((zAe l0 x22_2).f0))).trans hx116_0;replace hx116_1:=(cell_far (p:=⟨gb115,0,none⟩) (by first|(rw [zAS];exact hn116_0)|(show (Addr.add _ _).block≠_;rw [zAS];exact hn116_0)|exact hn116_0) (.int .i64 ((zAe l0 x22_2).f0))).trans hx116_1;replace hx116_0:=(cell_far (p:=⟨gb115,1,none⟩) (by first|(rw [zAS];exact hn116_1)|(show (Addr.add _ _).block≠_;rw [zAS];exact hn116_1)|exact hn116_1) (.int .i64 ((zAe l0 x22_2).f1))).trans hx116_0;replace hx116_1:=(cell_far (p:=⟨gb115,1,none⟩) (by first|(rw [zAS];exact hn116_1)|(show (Addr.add _ _).block≠_;rw [zAS];exact hn116_1)|exact hn116_1) (.int .i64 ((zAe l0 x22_2).f1))).trans hx116_1;(try have hy116_0:=fun (n_:Nat)=>(show ((((w21.drewN n_).setCell ⟨gb115,0,none⟩ (.int .i64 ((zAe l0 x22_2).f0))).setCell ⟨gb115,1,none⟩ (.int .i64 ((zAe l0 x22_2).f1)))).cell? _=some _ from hx116_0));(try have hy116_1:=fun (n_:Nat)=>(show ((((w21.drewN n_).setCell ⟨gb115,0,none⟩ (.int .i64 ((zAe l0 x22_2).f0))).setCell ⟨gb115,1,none⟩ (.int .i64 ((zAe l0 x22_2).f1)))).cell? _=some _ from hx116_1));clear hn116_0;clear hn116_1;replace p116:=eq_true p116;replace q116:=eq_true q116));try go_wp2_with (first|((with_reducible refine zAZ (N:=4) rfl ?_);(try (refine zAl (by rfl) ?_;dsimp only));refine zAW ?hg (N:=4) ?hd (cs:=#[.int .i64 0,.int .i64 0]) (t:=45) ?hr ?_;(case hd=>rfl);(case hg=>rfl);(case hr=>first|(go_simp;done)|(go_simp;rfl));intro gb115 hg w21 hbox hb;have n0_:=aK_ (zAG (aH_ HB.out) hb);have n1_:=aK_ (hbox);have n2_:=aK_ ((by rw [hg];exact (zAD (aH_ HB.out)):w.heap.size≤gb115));have n3_:=aK_ ((by rw [hg];exact (zAD (aH_ HB.out)):w.heap.size≤gb115));clear HB;have HB:=n0_;have BK115:=n1_;have GW115:=n2_;have GE115:=n3_;clear n0_ n1_ n2_ n3_;clear hb hbox hg;have hcz22_0:w21.cell? ⟨gb115,0,none⟩=some (.int .i64 0):=(zAB BK115.out 0).trans rfl;have hcz22_1:w21.cell? ⟨gb115,1,none⟩=some (.int .i64 0):=(zAB BK115.out 1).trans rfl;have hfz22_0:=zAA BK115.out 0;have hfz22_1:=zAA BK115.out 1;have p116:0≤((ji11):Int):=aD_;have q116:(ji11)<(l0.length:Int):=aD_;obtain ⟨ad116,e116,hx116_0,hx116_1⟩:=at_T45 HR0.out (ji11) p116 q116;obtain rfl:ad114=ad116:=(by injection e116);have hn116_0:ad114.block≠gb115:=Nat.ne_of_lt (Nat.lt_of_lt_of_le (by have:=World.block_lt_of_cell? _ _ hx116_0;first|rwa [zAS] at this|exact this) GW115.out);have hn116_1:ad114.block≠gb115:=Nat.ne_of_lt (Nat.lt_of_lt_of_le (by have:=World.block_lt_of_cell? _ _ hx116_0;first|rwa [zAS] at this|exact this) GW115.out);replace hx116_0:=(HB.out.cell (World.block_lt_of_cell? w _ hx116_0)).trans hx116_0;replace hx116_1:=(HB.out.cell (World.block_lt_of_cell? w _ hx116_1)).trans hx116_1;replace hx116_0:=(cell_far (p:=⟨gb115,0,none⟩) (by first|(rw [zAS];exact hn116_0)|(show (Addr.add _ _).block≠_;rw [zAS];exact hn116_0)|exact hn116_0) (.int .i64 ((zAe l0 x22_2).f0))).trans hx116_0;replace hx116_1:=(cell_far (p:=⟨gb115,0,none⟩) (by first|(rw [zAS];exact hn116_0)|(show (Addr.add _ _).block≠_;rw [zAS];exact hn116_0)|exact hn116_0) (.int .i64 ((zAe l0 x22_2).f0))).trans hx116_1;replace hx116_0:=(cell_far (p:=⟨gb115,1,none⟩) (by first|(rw [zAS];exact hn116_1)|(show (Addr.add _ _).block≠_;rw [zAS];exact hn116_1)|exact hn116_1) (.int .i64 ((zAe l0 x22_2).f1))).trans hx116_0;replace hx116_1:=(cell_far (p:=⟨gb115,1,none⟩) (by first|(rw [zAS];exact hn116_1)|(show (Addr.add _ _).block≠_;rw [zAS];exact hn116_1)|exact hn116_1) (.int .i64 ((zAe l0 x22_2).f1))).trans hx116_1;(try have hy116_0:=fun (n_:Nat)=>(show ((((w21.drewN n_).setCell ⟨gb115,0,none⟩ (.int .i64 ((zAe l0 x22_2).f0))).setCell ⟨gb115,1,none⟩ (.int .i64 ((zAe l0 x22_2).f1)))).cell? _=some _ from hx116_0));(try have hy116_1:=fun (n_:Nat)=>(show ((((w21.drewN n_).setCell ⟨gb115,0,none⟩ (.int .i64 ((zAe l0 x22_2).f0))).setCell ⟨gb115,1,none⟩ (.int .i64 ((zAe l0 x22_2).f1)))).cell? _=some _ from hx116_1));clear hn116_0;clear hn116_1;replace p116:=eq_true p116;replace q116:=eq_true q116)))
  go_ret
  exact ⟨by first|rfl|(simp [zAE,zAF] <;> rfl)|(simp only [← hji11];first|rfl|(simp [zAE,zAF] <;> rfl))|(simp [*,zAE,zAF] <;> rfl),aI_ HB.out GE115.out⟩
 rw [if_neg c20] at H
 have c20b0:decide (((zAe l0 x22_2).f1)<(-1000000000000))=false:=decide_eq_false c20
 clear c20
 by_cases c23:((zAe l0 x22_2).f1) > 1000000000000
 ·rw [if_pos c23] at H
  have c23b0:decide (1000000000000<((zAe l0 x22_2).f1))=true:=decide_eq_true c23
  clear c23
  obtain rfl:=Option.some.inj H
  have p114:0≤(x22_2:Int):=aD_
  have q114:x22_2<(l0.length:Int):=aD_
  obtain ⟨ad114,e114,hx114_0,hx114_1⟩:=at_T45 HR0.out x22_2 p114 q114
  cases e114
  replace hx114_0:=(HB.out.cell (World.block_lt_of_cell? w _ hx114_0)).trans hx114_0
  replace hx114_1:=(HB.out.cell (World.block_lt_of_cell? w _ hx114_1)).trans hx114_1
  replace p114:=eq_true p114
  replace q114:=eq_true q114
  go_wp2_with (first|((with_reducible refine zAZ (N:=4) rfl ?_);(try (refine zAl (by rfl) ?_;dsimp only));refine zAW ?hg (N:=4) ?hd (cs:=#[.int .i64 0,.int .i64 0]) (t:=45) ?hr ?_;(case hd=>rfl);(case hg=>rfl);(case hr=>first|(go_simp;done)|(go_simp;rfl));intro gb115 hg w24 hbox hb;have n0_:=aK_ (zAG (aH_ HB.out) hb);have n1_:=aK_ (hbox);have n2_:=aK_ ((by rw [hg];exact (zAD (aH_ HB.out)):w.heap.size≤gb115));have n3_:=aK_ ((by rw [hg];exact (zAD (aH_ HB.out)):w.heap.size≤gb115));clear HB;have HB:=n0_;have BK115:=n1_;have GW115:=n2_;have GE115:=n3_;clear n0_ n1_ n2_ n3_;clear hb hbox hg;have hcz25_0:w24.cell? ⟨gb115,0,none⟩=some (.int .i64 0):=(zAB BK115.out 0).trans rfl;have hcz25_1:w24.cell? ⟨gb115,1,none⟩=some (.int .i64 0):=(zAB BK115.out 1).trans rfl;have hfz25_0:=zAA BK115.out 0;have hfz25_1:=zAA BK115.out 1;have p116:0≤((ji11):Int):=aD_;have q116:(ji11)<(l0.length:Int):=aD_;obtain ⟨ad116,e116,hx116_0,hx116_1⟩:=at_T45 HR0.out (ji11) p116 q116;obtain rfl:ad114=ad116:=(by injection e116);have hn116_0:ad114.block≠gb115:=Nat.ne_of_lt (Nat.lt_of_lt_of_le (by have:=World.block_lt_of_cell? _ _ hx116_0;first|rwa [zAS] at this|exact this) GW115.out);have hn116_1:ad114.block≠gb115:=Nat.ne_of_lt (Nat.lt_of_lt_of_le (by have:=World.block_lt_of_cell? _ _ hx116_0;first|rwa [zAS] at this|exact this) GW115.out);replace hx116_0:=(HB.out.cell (World.block_lt_of_cell? w _ hx116_0)).trans hx116_0;replace hx116_1:=(HB.out.cell (World.block_lt_of_cell? w _ hx116_1)).trans hx116_1;replace hx116_0:=(cell_far (p:=⟨gb115,0,none⟩) (by first|(rw [zAS];exact hn116_0)|(show (Addr.add _ _).block≠_;rw [zAS];exact hn116_0)|exact hn116_0) (.int .i64 ((zAe l0 x22_2).f0))).trans hx116_0;replace hx116_1:=(cell_far (p:=⟨gb115,0,none⟩) (by first|(rw [zAS];exact hn116_0)|(show (Addr.add _ _).block≠_;rw [zAS];exact hn116_0)|exact hn116_0) (.int .i64 ((zAe l0 x22_2).f0))).trans hx116_1;replace hx116_0:=(cell_far (p:=⟨gb115,1,none⟩) (by first|(rw [zAS];exact hn116_1)|(show (Addr.add _ _).block≠_;rw [zAS];exact hn116_1)|exact hn116_1) (.int .i64 ((zAe l0 x22_2).f1))).trans hx116_0;replace hx116_1:=(cell_far (p:=⟨gb115,1,none⟩) (by first|(rw [zAS];exact hn116_1)|(show (Addr.add _ _).block≠_;rw [zAS];exact hn116_1)|exact hn116_1) (.int .i64 ((zAe l0 x22_2).f1))).trans hx116_1;(try have hy116_0:=fun (n_:Nat)=>(show ((((w24.drewN n_).setCell ⟨gb115,0,none⟩ (.int .i64 ((zAe l0 x22_2).f0))).setCell ⟨gb115,1,none⟩ (.int .i64 ((zAe l0 x22_2).f1)))).cell? _=some _ from hx116_0));(try have hy116_1:=fun (n_:Nat)=>(show ((((w24.drewN n_).setCell ⟨gb115,0,none⟩ (.int .i64 ((zAe l0 x22_2).f0))).setCell ⟨gb115,1,none⟩ (.int .i64 ((zAe l0 x22_2).f1)))).cell? _=some _ from hx116_1));clear hn116_0;clear hn116_1;replace p116:=eq_true p116;replace q116:=eq_true q116))
  repeat (go_quiet (first|((with_reducible refine zAZ (N:=4) rfl ?_);(try (refine zAl (by rfl) ?_;dsimp only));refine zAW ?hg (N:=4) ?hd (cs:=#[.int .i64 0,.int .i64 0]) (t:=45) ?hr ?_;(case hd=>rfl);(case hg=>rfl);(case hr=>first|(go_simp;done)|(go_simp;rfl));intro gb115 hg w24 hbox hb;have n0_:=aK_ (zAG (aH_ HB.out) hb);have n1_:=aK_ (hbox);have n2_:=aK_ ((by rw [hg];exact (zAD (aH_ HB.out)):w.heap.size≤gb115));have n3_:=aK_ ((by rw [hg];exact (zAD (aH_ HB.out)):w.heap.size≤gb115));clear HB;have HB:=n0_;have BK115:=n1_;have GW115:=n2_;have GE115:=n3_;clear n0_ n1_ n2_ n3_;clear hb hbox hg;have hcz25_0:w24.cell? ⟨gb115,0,none⟩=some (.int .i64 0):=(zAB BK115.out 0).trans rfl;have hcz25_1:w24.cell? ⟨gb115,1,none⟩=some (.int .i64 0):=(zAB BK115.out 1).trans rfl;have hfz25_0:=zAA BK115.out 0;have hfz25_1:=zAA BK115.out 1;have p116:0≤((ji11):Int):=aD_;have q116:(ji11)<(l0.length:Int):=aD_;obtain ⟨ad116,e116,hx116_0,hx116_1⟩:=at_T45 HR0.out (ji11) p116 q116;obtain rfl:ad114=ad116:=(by injection e116);have hn116_0:ad114.block≠gb115:=Nat.ne_of_lt (Nat.lt_of_lt_of_le (by have:=World.block_lt_of_cell? _ _ hx116_0;first|rwa [zAS] at this|exact this) GW115.out);have hn116_1:ad114.block≠gb115:=Nat.ne_of_lt (Nat.lt_of_lt_of_le (by have:=World.block_lt_of_cell? _ _ hx116_0;first|rwa [zAS] at this|exact this) GW115.out);replace hx116_0:=(HB.out.cell (World.block_lt_of_cell? w _ hx116_0)).trans hx116_0;replace hx116_1:=(HB.out.cell (World.block_lt_of_cell? w _ hx116_1)).trans hx116_1;replace hx116_0:=(cell_far (p:=⟨gb115,0,none⟩) (by first|(rw [zAS];exact hn116_0)|(show (Addr.add _ _).block≠_;rw [zAS];exact hn116_0)|exact hn116_0) (.int .i64 ((zAe l0 x22_2).f0))).trans hx116_0;replace hx116_1:=(cell_far (p:=⟨gb115,0,none⟩) (by first|(rw [zAS];exact hn116_0)|(show (Addr.add _ _).block≠_;rw [zAS];exact hn116_0)|exact hn116_0) (.int .i64 ((zAe l0 x22_2).f0))).trans hx116_1;replace hx116_0:=(cell_far (p:=⟨gb115,1,none⟩) (by first|(rw [zAS];exact hn116_1)|(show (Addr.add _ _).block≠_;rw [zAS];exact hn116_1)|exact hn116_1) (.int .i64 ((zAe l0 x22_2).f1))).trans hx116_0;replace hx116_1:=(cell_far (p:=⟨gb115,1,none⟩) (by first|(rw [zAS];exact hn116_1)|(show (Addr.add _ _).block≠_;rw [zAS];exact hn116_1)|exact hn116_1) (.int .i64 ((zAe l0 x22_2).f1))).trans hx116_1;(try have hy116_0:=fun (n_:Nat)=>(show ((((w24.drewN n_).setCell ⟨gb115,0,none⟩ (.int .i64 ((zAe l0 x22_2).f0))).setCell ⟨gb115,1,none⟩ (.int .i64 ((zAe l0 x22_2).f1)))).cell? _=some _ from hx116_0));(try have hy116_1:=fun (n_:Nat)=>(show ((((w24.drewN n_).setCell ⟨gb115,0,none⟩ (.int .i64 ((zAe l0 x22_2).f0))).setCell ⟨gb115,1,none⟩ (.int .i64 ((zAe l0 x22_2).f1)))).cell? _=some _ from hx116_1));clear hn116_0;clear hn116_1;replace p116:=eq_true p116;replace q116:=eq_true q116));try go_wp2_with (first|((with_reducible refine zAZ (N:=4) rfl ?_);(try (refine zAl (by rfl) ?_;dsimp only));refine zAW ?hg (N:=4) ?hd (cs:=#[.int .i64 0,.int .i64 0]) (t:=45) ?hr ?_;(case hd=>rfl);(case hg=>rfl);(case hr=>first|(go_simp;done)|(go_simp;rfl));intro gb115 hg w24 hbox hb;have n0_:=aK_ (zAG (aH_ HB.out) hb);have n1_:=aK_ (hbox);have n2_:=aK_ ((by rw [hg];exact (zAD (aH_ HB.out)):w.heap.size≤gb115));have n3_:=aK_ ((by rw [hg];exact (zAD (aH_ HB.out)):w.heap.size≤gb115));clear HB;have HB:=n0_;have BK115:=n1_;have GW115:=n2_;have GE115:=n3_;clear n0_ n1_ n2_ n3_;clear hb hbox hg;have hcz25_0:w24.cell? ⟨gb115,0,none⟩=some (.int .i64 0):=(zAB BK115.out 0).trans rfl;have hcz25_1:w24.cell? ⟨gb115,1,none⟩=some (.int .i64 0):=(zAB BK115.out 1).trans rfl;have hfz25_0:=zAA BK115.out 0;have hfz25_1:=zAA BK115.out 1;have p116:0≤((ji11):Int):=aD_;have q116:(ji11)<(l0.length:Int):=aD_;obtain ⟨ad116,e116,hx116_0,hx116_1⟩:=at_T45 HR0.out (ji11) p116 q116;obtain rfl:ad114=ad116:=(by injection e116);have hn116_0:ad114.block≠gb115:=Nat.ne_of_lt (Nat.lt_of_lt_of_le (by have:=World.block_lt_of_cell? _ _ hx116_0;first|rwa [zAS] at this|exact this) GW115.out);have hn116_1:ad114.block≠gb115:=Nat.ne_of_lt (Nat.lt_of_lt_of_le (by have:=World.block_lt_of_cell? _ _ hx116_0;first|rwa [zAS] at this|exact this) GW115.out);replace hx116_0:=(HB.out.cell (World.block_lt_of_cell? w _ hx116_0)).trans hx116_0;replace hx116_1:=(HB.out.cell (World.block_lt_of_cell? w _ hx116_1)).trans hx116_1;replace hx116_0:=(cell_far (p:=⟨gb115,0,none⟩) (by first|(rw [zAS];exact hn116_0)|(show (Addr.add _ _).block≠_;rw [zAS];exact hn116_0)|exact hn116_0) (.int .i64 ((zAe l0 x22_2).f0))).trans hx116_0;replace hx116_1:=(cell_far (p:=⟨gb115,0,none⟩) (by first|(rw [zAS];exact hn116_0)|(show (Addr.add _ _).block≠_;rw [zAS];exact hn116_0)|exact hn116_0) (.int .i64 ((zAe l0 x22_2).f0))).trans hx116_1;replace hx116_0:=(cell_far (p:=⟨gb115,1,none⟩) (by first|(rw [zAS];exact hn116_1)|(show (Addr.add _ _).block≠_;rw [zAS];exact hn116_1)|exact hn116_1) (.int .i64 ((zAe l0 x22_2).f1))).trans hx116_0;replace hx116_1:=(cell_far (p:=⟨gb115,1,none⟩) (by first|(rw [zAS];exact hn116_1)|(show (Addr.add _ _).block≠_;rw [zAS];exact hn116_1)|exact hn116_1) (.int .i64 ((zAe l0 x22_2).f1))).trans hx116_1;(try have hy116_0:=fun (n_:Nat)=>(show ((((w24.drewN n_).setCell ⟨gb115,0,none⟩ (.int .i64 ((zAe l0 x22_2).f0))).setCell ⟨gb115,1,none⟩ (.int .i64 ((zAe l0 x22_2).f1)))).cell? _=some _ from hx116_0));(try have hy116_1:=fun (n_:Nat)=>(show ((((w24.drewN n_).setCell ⟨gb115,0,none⟩ (.int .i64 ((zAe l0 x22_2).f0))).setCell ⟨gb115,1,none⟩ (.int .i64 ((zAe l0 x22_2).f1)))).cell? _=some _ from hx116_1));clear hn116_0;clear hn116_1;replace p116:=eq_true p116;replace q116:=eq_true q116)))
  go_ret
  exact ⟨by first|rfl|(simp [zAE,zAF] <;> rfl)|(simp only [← hji11];first|rfl|(simp [zAE,zAF] <;> rfl))|(simp [*,zAE,zAF] <;> rfl),aI_ HB.out GE115.out⟩
 rw [if_neg c23] at H
 have c23b0:decide (1000000000000<((zAe l0 x22_2).f1))=false:=decide_eq_false c23
 clear c23
 have H':=aK_ H
 clear H
 have p114:0≤(x22_2:Int):=aD_
 have q114:x22_2<(l0.length:Int):=aD_
 obtain ⟨ad114,e114,hx114_0,hx114_1⟩:=at_T45 HR0.out x22_2 p114 q114
 cases e114
 replace hx114_0:=(HB.out.cell (World.block_lt_of_cell? w _ hx114_0)).trans hx114_0
 replace hx114_1:=(HB.out.cell (World.block_lt_of_cell? w _ hx114_1)).trans hx114_1
 replace p114:=eq_true p114
 replace q114:=eq_true q114
 go_wp2_with (first|((with_reducible refine zAZ (N:=4) rfl ?_);(try (refine zAl (by rfl) ?_;dsimp only));refine zAW ?hg (N:=4) ?hd (cs:=#[.int .i64 0,.int .i64 0]) (t:=45) ?hr ?_;(case hd=>rfl);(case hg=>rfl);(case hr=>first|(go_simp;done)|(go_simp;rfl));intro gb115 hg w26 hbox hb;have n0_:=aK_ (zAG (aH_ HB.out) hb);have n1_:=aK_ (hbox);have n2_:=aK_ ((by rw [hg];exact (zAD (aH_ HB.out)):w.heap.size≤gb115));have n3_:=aK_ ((by rw [hg];exact (zAD (aH_ HB.out)):w.heap.size≤gb115));clear HB;have HB:=n0_;have BK115:=n1_;have GW115:=n2_;have GE115:=n3_;clear n0_ n1_ n2_ n3_;clear hb hbox hg;have hcz27_0:w26.cell? ⟨gb115,0,none⟩=some (.int .i64 0):=(zAB BK115.out 0).trans rfl;have hcz27_1:w26.cell? ⟨gb115,1,none⟩=some (.int .i64 0):=(zAB BK115.out 1).trans rfl;have hfz27_0:=zAA BK115.out 0;have hfz27_1:=zAA BK115.out 1;have p116:0≤((ji11):Int):=aD_;have q116:(ji11)<(l0.length:Int):=aD_;obtain ⟨ad116,e116,hx116_0,hx116_1⟩:=at_T45 HR0.out (ji11) p116 q116;obtain rfl:ad114=ad116:=(by injection e116);have hn116_0:ad114.block≠gb115:=Nat.ne_of_lt (Nat.lt_of_lt_of_le (by have:=World.block_lt_of_cell? _ _ hx116_0;first|rwa [zAS] at this|exact this) GW115.out);have hn116_1:ad114.block≠gb115:=Nat.ne_of_lt (Nat.lt_of_lt_of_le (by have:=World.block_lt_of_cell? _ _ hx116_0;first|rwa [zAS] at this|exact this) GW115.out);replace hx116_0:=(HB.out.cell (World.block_lt_of_cell? w _ hx116_0)).trans hx116_0;replace hx116_1:=(HB.out.cell (World.block_lt_of_cell? w _ hx116_1)).trans hx116_1;replace hx116_0:=(cell_far (p:=⟨gb115,0,none⟩) (by first|(rw [zAS];exact hn116_0)|(show (Addr.add _ _).block≠_;rw [zAS];exact hn116_0)|exact hn116_0) (.int .i64 ((zAe l0 x22_2).f0))).trans hx116_0;replace hx116_1:=(cell_far (p:=⟨gb115,0,none⟩) (by first|(rw [zAS];exact hn116_0)|(show (Addr.add _ _).block≠_;rw [zAS];exact hn116_0)|exact hn116_0) (.int .i64 ((zAe l0 x22_2).f0))).trans hx116_1;replace hx116_0:=(cell_far (p:=⟨gb115,1,none⟩) (by first|(rw [zAS];exact hn116_1)|(show (Addr.add _ _).block≠_;rw [zAS];exact hn116_1)|exact hn116_1) (.int .i64 ((zAe l0 x22_2).f1))).trans hx116_0;replace hx116_1:=(cell_far (p:=⟨gb115,1,none⟩) (by first|(rw [zAS];exact hn116_1)|(show (Addr.add _ _).block≠_;rw [zAS];exact hn116_1)|exact hn116_1) (.int .i64 ((zAe l0 x22_2).f1))).trans hx116_1;(try have hy116_0:=fun (n_:Nat)=>(show ((((w26.drewN n_).setCell ⟨gb115,0,none⟩ (.int .i64 ((zAe l0 x22_2).f0))).setCell ⟨gb115,1,none⟩ (.int .i64 ((zAe l0 x22_2).f1)))).cell? _=some _ from hx116_0));(try have hy116_1:=fun (n_:Nat)=>(show ((((w26.drewN n_).setCell ⟨gb115,0,none⟩ (.int .i64 ((zAe l0 x22_2).f0))).setCell ⟨gb115,1,none⟩ (.int .i64 ((zAe l0 x22_2).f1)))).cell? _=some _ from hx116_1));clear hn116_0;clear hn116_1;replace p116:=eq_true p116;replace q116:=eq_true q116))
 repeat (go_quiet (first|((with_reducible refine zAZ (N:=4) rfl ?_);(try (refine zAl (by rfl) ?_;dsimp only));refine zAW ?hg (N:=4) ?hd (cs:=#[.int .i64 0,.int .i64 0]) (t:=45) ?hr ?_;(case hd=>rfl);(case hg=>rfl);(case hr=>first|(go_simp;done)|(go_simp;rfl));intro gb115 hg w26 hbox hb;have n0_:=aK_ (zAG (aH_ HB.out) hb);have n1_:=aK_ (hbox);have n2_:=aK_ ((by rw [hg];exact (zAD (aH_ HB.out)):w.heap.size≤gb115));have n3_:=aK_ ((by rw [hg];exact (zAD (aH_ HB.out)):w.heap.size≤gb115));clear HB;have HB:=n0_;have BK115:=n1_;have GW115:=n2_;have GE115:=n3_;clear n0_ n1_ n2_ n3_;clear hb hbox hg;have hcz27_0:w26.cell? ⟨gb115,0,none⟩=some (.int .i64 0):=(zAB BK115.out 0).trans rfl;have hcz27_1:w26.cell? ⟨gb115,1,none⟩=some (.int .i64 0):=(zAB BK115.out 1).trans rfl;have hfz27_0:=zAA BK115.out 0;have hfz27_1:=zAA BK115.out 1;have p116:0≤((ji11):Int):=aD_;have q116:(ji11)<(l0.length:Int):=aD_;obtain ⟨ad116,e116,hx116_0,hx116_1⟩:=at_T45 HR0.out (ji11) p116 q116;obtain rfl:ad114=ad116:=(by injection e116);have hn116_0:ad114.block≠gb115:=Nat.ne_of_lt (Nat.lt_of_lt_of_le (by have:=World.block_lt_of_cell? _ _ hx116_0;first|rwa [zAS] at this|exact this) GW115.out);have hn116_1:ad114.block≠gb115:=Nat.ne_of_lt (Nat.lt_of_lt_of_le (by have:=World.block_lt_of_cell? _ _ hx116_0;first|rwa [zAS] at this|exact this) GW115.out);replace hx116_0:=(HB.out.cell (World.block_lt_of_cell? w _ hx116_0)).trans hx116_0;replace hx116_1:=(HB.out.cell (World.block_lt_of_cell? w _ hx116_1)).trans hx116_1;replace hx116_0:=(cell_far (p:=⟨gb115,0,none⟩) (by first|(rw [zAS];exact hn116_0)|(show (Addr.add _ _).block≠_;rw [zAS];exact hn116_0)|exact hn116_0) (.int .i64 ((zAe l0 x22_2).f0))).trans hx116_0;replace hx116_1:=(cell_far (p:=⟨gb115,0,none⟩) (by first|(rw [zAS];exact hn116_0)|(show (Addr.add _ _).block≠_;rw [zAS];exact hn116_0)|exact hn116_0) (.int .i64 ((zAe l0 x22_2).f0))).trans hx116_1;replace hx116_0:=(cell_far (p:=⟨gb115,1,none⟩) (by first|(rw [zAS];exact hn116_1)|(show (Addr.add _ _).block≠_;rw [zAS];exact hn116_1)|exact hn116_1) (.int .i64 ((zAe l0 x22_2).f1))).trans hx116_0;replace hx116_1:=(cell_far (p:=⟨gb115,1,none⟩) (by first|(rw [zAS];exact hn116_1)|(show (Addr.add _ _).block≠_;rw [zAS];exact hn116_1)|exact hn116_1) (.int .i64 ((zAe l0 x22_2).f1))).trans hx116_1;(try have hy116_0:=fun (n_:Nat)=>(show ((((w26.drewN n_).setCell ⟨gb115,0,none⟩ (.int .i64 ((zAe l0 x22_2).f0))).setCell ⟨gb115,1,none⟩ (.int .i64 ((zAe l0 x22_2).f1)))).cell? _=some _ from hx116_0));(try have hy116_1:=fun (n_:Nat)=>(show ((((w26.drewN n_).setCell ⟨gb115,0,none⟩ (.int .i64 ((zAe l0 x22_2).f0))).setCell ⟨gb115,1,none⟩ (.int .i64 ((zAe l0 x22_2).f1)))).cell? _=some _ from hx116_1));clear hn116_0;clear hn116_1;replace p116:=eq_true p116;replace q116:=eq_true q116));try go_wp2_with (first|((with_reducible refine zAZ (N:=4) rfl ?_);(try (refine zAl (by rfl) ?_;dsimp only));refine zAW ?hg (N:=4) ?hd (cs:=#[.int .i64 0,.int .i64 0]) (t:=45) ?hr ?_;(case hd=>rfl);(case hg=>rfl);(case hr=>first|(go_simp;done)|(go_simp;rfl));intro gb115 hg w26 hbox hb;have n0_:=aK_ (zAG (aH_ HB.out) hb);have n1_:=aK_ (hbox);have n2_:=aK_ ((by rw [hg];exact (zAD (aH_ HB.out)):w.heap.size≤gb115));have n3_:=aK_ ((by rw [hg];exact (zAD (aH_ HB.out)):w.heap.size≤gb115));clear HB;have HB:=n0_;have BK115:=n1_;have GW115:=n2_;have GE115:=n3_;clear n0_ n1_ n2_ n3_;clear hb hbox hg;have hcz27_0:w26.cell? ⟨gb115,0,none⟩=some (.int .i64 0):=(zAB BK115.out 0).trans rfl;have hcz27_1:w26.cell? ⟨gb115,1,none⟩=some (.int .i64 0):=(zAB BK115.out 1).trans rfl;have hfz27_0:=zAA BK115.out 0;have hfz27_1:=zAA BK115.out 1;have p116:0≤((ji11):Int):=aD_;have q116:(ji11)<(l0.length:Int):=aD_;obtain ⟨ad116,e116,hx116_0,hx116_1⟩:=at_T45 HR0.out (ji11) p116 q116;obtain rfl:ad114=ad116:=(by injection e116);have hn116_0:ad114.block≠gb115:=Nat.ne_of_lt (Nat.lt_of_lt_of_le (by have:=World.block_lt_of_cell? _ _ hx116_0;first|rwa [zAS] at this|exact this) GW115.out);have hn116_1:ad114.block≠gb115:=Nat.ne_of_lt (Nat.lt_of_lt_of_le (by have:=World.block_lt_of_cell? _ _ hx116_0;first|rwa [zAS] at this|exact this) GW115.out);replace hx116_0:=(HB.out.cell (World.block_lt_of_cell? w _ hx116_0)).trans hx116_0;replace hx116_1:=(HB.out.cell (World.block_lt_of_cell? w _ hx116_1)).trans hx116_1;replace hx116_0:=(cell_far (p:=⟨gb115,0,none⟩) (by first|(rw [zAS];exact hn116_0)|(show (Addr.add _ _).block≠_;rw [zAS];exact hn116_0)|exact hn116_0) (.int .i64 ((zAe l0 x22_2).f0))).trans hx116_0;replace hx116_1:=(cell_far (p:=⟨gb115,0,none⟩) (by first|(rw [zAS];exact hn116_0)|(show (Addr.add _ _).block≠_;rw [zAS];exact hn116_0)|exact hn116_0) (.int .i64 ((zAe l0 x22_2).f0))).trans hx116_1;replace hx116_0:=(cell_far (p:=⟨gb115,1,none⟩) (by first|(rw [zAS];exact hn116_1)|(show (Addr.add _ _).block≠_;rw [zAS];exact hn116_1)|exact hn116_1) (.int .i64 ((zAe l0 x22_2).f1))).trans hx116_0;replace hx116_1:=(cell_far (p:=⟨gb115,1,none⟩) (by first|(rw [zAS];exact hn116_1)|(show (Addr.add _ _).block≠_;rw [zAS];exact hn116_1)|exact hn116_1) (.int .i64 ((zAe l0 x22_2).f1))).trans hx116_1;(try have hy116_0:=fun (n_:Nat)=>(show ((((w26.drewN n_).setCell ⟨gb115,0,none⟩ (.int .i64 ((zAe l0 x22_2).f0))).setCell ⟨gb115,1,none⟩ (.int .i64 ((zAe l0 x22_2).f1)))).cell? _=some _ from hx116_0));(try have hy116_1:=fun (n_:Nat)=>(show ((((w26.drewN n_).setCell ⟨gb115,0,none⟩ (.int .i64 ((zAe l0 x22_2).f0))).setCell ⟨gb115,1,none⟩ (.int .i64 ((zAe l0 x22_2).f1)))).cell? _=some _ from hx116_1));clear hn116_0;clear hn116_1;replace p116:=eq_true p116;replace q116:=eq_true q116)))
 go_roundg k2
 case measure=>have:=HJ1.out;have:=HK2.out;omega
 case rel=>exact ⟨(wrap64 (x22_2+1)),aS2_,H',⟨by have:=HJ1.out;have:=HK2.out;omega⟩,⟨aI_ HB.out GE115.out⟩⟩
end Go.Proofs.YthbnigjckjkmnaaDoor.S

namespace Go.Proofs.YthbnigjckjkmnaaDoor.S
open Go.RowKit Go.Proofs.YthbnigjckjkmnaaDoorW.PrintWords Go.Proofs.YthbnigjckjkmnaaDoorW.PrintLast Go.Proofs.YthbnigjckjkmnaaDoorW.PrintMore
def fv (f : FuncId) : Value := .func (.func f) #[] #[]
abbrev ruleT : Array Value := #[.nilFunc, .int .i64 0, .func (.func 63) #[] #[], .int .i64 0, .func (.func 64) #[] #[], .int .i64 0, .func (.func 65) #[] #[], .int .i64 0, .func (.func 66) #[] #[], .int .i64 0, .func (.func 67) #[] #[], .int .i64 1, .func (.func 67) #[] #[], .int .i64 2, .func (.func 67) #[] #[], .int .i64 2, .func (.func 68) #[] #[], .int .i64 2, .func (.func 67) #[] #[], .int .i64 (-1), .func (.func 67) #[] #[], .int .i64 (-1), .func (.func 69) #[] #[], .int .i64 1, .func (.func 69) #[] #[], .int .i64 1, .func (.func 70) #[] #[], .int .i64 1, .func (.func 70) #[] #[], .int .i64 1, .func (.func 71) #[] #[], .int .i64 1, .func (.func 72) #[] #[], .int .i64 3]
theorem new_row (w : World) (o : Obj) : (w.alloc o).heap[w.heap.size]? = some o := by
  show (w.heap.push o)[w.heap.size]? = some o
  simp
set_option maxRecDepth 100000 in
set_option maxHeartbeats 4000000 in
theorem rules_1 (w : World) : Calls Tryd.prog 53 #[.int .i64 1] w fun e w' => e = .returned (.tuple #[.func (.func 63) #[] #[], .int .i64 0]) ∧ Below w.heap.size w w' := by
  have hu87 := Tryd.underlying87
  have hu86 := Tryd.underlying86
  have hu71 := Tryd.underlying71
  go_enter Tryd.func53, Tryd.ntmps53
  go_wp2
  have hb : (w.alloc (.cells ruleT 86)).heap[w.heap.size]? = some (.cells ruleT 86 (0, 0)) := new_row w _
  have HB : Below w.heap.size w (w.alloc (.cells ruleT 86)) := zAI (Below.refl _ _) _
  generalize w.alloc (.cells ruleT 86) = w1 at hb HB ⊢
  have h1 : w1.cell? ⟨w.heap.size, 2, none⟩ = some (.func (.func 63) #[] #[]) := (zAB hb 2).trans rfl
  have h2 : w1.cell? ⟨w.heap.size, 3, none⟩ = some (.int .i64 0) := (zAB hb 3).trans rfl
  go_region
  go_wp2
  go_ret2
  exact ⟨rfl, by repeat (first | exact HB | apply zAI | apply zAh | apply below_drew1)⟩
set_option maxRecDepth 100000 in
set_option maxHeartbeats 4000000 in
theorem rules_2 (w : World) : Calls Tryd.prog 53 #[.int .i64 2] w fun e w' => e = .returned (.tuple #[.func (.func 64) #[] #[], .int .i64 0]) ∧ Below w.heap.size w w' := by
  have hu87 := Tryd.underlying87
  have hu86 := Tryd.underlying86
  have hu71 := Tryd.underlying71
  go_enter Tryd.func53, Tryd.ntmps53
  go_wp2
  have hb : (w.alloc (.cells ruleT 86)).heap[w.heap.size]? = some (.cells ruleT 86 (0, 0)) := new_row w _
  have HB : Below w.heap.size w (w.alloc (.cells ruleT 86)) := zAI (Below.refl _ _) _
  generalize w.alloc (.cells ruleT 86) = w1 at hb HB ⊢
  have h1 : w1.cell? ⟨w.heap.size, 4, none⟩ = some (.func (.func 64) #[] #[]) := (zAB hb 4).trans rfl
  have h2 : w1.cell? ⟨w.heap.size, 5, none⟩ = some (.int .i64 0) := (zAB hb 5).trans rfl
  go_region
  go_wp2
  go_ret2
  exact ⟨rfl, by repeat (first | exact HB | apply zAI | apply zAh | apply below_drew1)⟩
set_option maxRecDepth 100000 in
set_option maxHeartbeats 4000000 in
theorem rules_3 (w : World) : Calls Tryd.prog 53 #[.int .i64 3] w fun e w' => e = .returned (.tuple #[.func (.func 65) #[] #[], .int .i64 0]) ∧ Below w.heap.size w w' := by
  have hu87 := Tryd.underlying87
  have hu86 := Tryd.underlying86
  have hu71 := Tryd.underlying71
  go_enter Tryd.func53, Tryd.ntmps53
  go_wp2
  have hb : (w.alloc (.cells ruleT 86)).heap[w.heap.size]? = some (.cells ruleT 86 (0, 0)) := new_row w _
  have HB : Below w.heap.size w (w.alloc (.cells ruleT 86)) := zAI (Below.refl _ _) _
  generalize w.alloc (.cells ruleT 86) = w1 at hb HB ⊢
  have h1 : w1.cell? ⟨w.heap.size, 6, none⟩ = some (.func (.func 65) #[] #[]) := (zAB hb 6).trans rfl
  have h2 : w1.cell? ⟨w.heap.size, 7, none⟩ = some (.int .i64 0) := (zAB hb 7).trans rfl
  go_region
  go_wp2
  go_ret2
  exact ⟨rfl, by repeat (first | exact HB | apply zAI | apply zAh | apply below_drew1)⟩
set_option maxRecDepth 100000 in
set_option maxHeartbeats 4000000 in
theorem rules_4 (w : World) : Calls Tryd.prog 53 #[.int .i64 4] w fun e w' => e = .returned (.tuple #[.func (.func 66) #[] #[], .int .i64 0]) ∧ Below w.heap.size w w' := by
  have hu87 := Tryd.underlying87
  have hu86 := Tryd.underlying86
  have hu71 := Tryd.underlying71
  go_enter Tryd.func53, Tryd.ntmps53
  go_wp2
  have hb : (w.alloc (.cells ruleT 86)).heap[w.heap.size]? = some (.cells ruleT 86 (0, 0)) := new_row w _
  have HB : Below w.heap.size w (w.alloc (.cells ruleT 86)) := zAI (Below.refl _ _) _
  generalize w.alloc (.cells ruleT 86) = w1 at hb HB ⊢
  have h1 : w1.cell? ⟨w.heap.size, 8, none⟩ = some (.func (.func 66) #[] #[]) := (zAB hb 8).trans rfl
  have h2 : w1.cell? ⟨w.heap.size, 9, none⟩ = some (.int .i64 0) := (zAB hb 9).trans rfl
  go_region
  go_wp2
  go_ret2
  exact ⟨rfl, by repeat (first | exact HB | apply zAI | apply zAh | apply below_drew1)⟩
set_option maxRecDepth 100000 in
set_option maxHeartbeats 4000000 in
theorem rules_5 (w : World) : Calls Tryd.prog 53 #[.int .i64 5] w fun e w' => e = .returned (.tuple #[.func (.func 67) #[] #[], .int .i64 1]) ∧ Below w.heap.size w w' := by
  have hu87 := Tryd.underlying87
  have hu86 := Tryd.underlying86
  have hu71 := Tryd.underlying71
  go_enter Tryd.func53, Tryd.ntmps53
  go_wp2
  have hb : (w.alloc (.cells ruleT 86)).heap[w.heap.size]? = some (.cells ruleT 86 (0, 0)) := new_row w _
  have HB : Below w.heap.size w (w.alloc (.cells ruleT 86)) := zAI (Below.refl _ _) _
  generalize w.alloc (.cells ruleT 86) = w1 at hb HB ⊢
  have h1 : w1.cell? ⟨w.heap.size, 10, none⟩ = some (.func (.func 67) #[] #[]) := (zAB hb 10).trans rfl
  have h2 : w1.cell? ⟨w.heap.size, 11, none⟩ = some (.int .i64 1) := (zAB hb 11).trans rfl
  go_region
  go_wp2
  go_ret2
  exact ⟨rfl, by repeat (first | exact HB | apply zAI | apply zAh | apply below_drew1)⟩
set_option maxRecDepth 100000 in
set_option maxHeartbeats 4000000 in
theorem rules_6 (w : World) : Calls Tryd.prog 53 #[.int .i64 6] w fun e w' => e = .returned (.tuple #[.func (.func 67) #[] #[], .int .i64 2]) ∧ Below w.heap.size w w' := by
  have hu87 := Tryd.underlying87
  have hu86 := Tryd.underlying86
  have hu71 := Tryd.underlying71
  go_enter Tryd.func53, Tryd.ntmps53
  go_wp2
  have hb : (w.alloc (.cells ruleT 86)).heap[w.heap.size]? = some (.cells ruleT 86 (0, 0)) := new_row w _
  have HB : Below w.heap.size w (w.alloc (.cells ruleT 86)) := zAI (Below.refl _ _) _
  generalize w.alloc (.cells ruleT 86) = w1 at hb HB ⊢
  have h1 : w1.cell? ⟨w.heap.size, 12, none⟩ = some (.func (.func 67) #[] #[]) := (zAB hb 12).trans rfl
  have h2 : w1.cell? ⟨w.heap.size, 13, none⟩ = some (.int .i64 2) := (zAB hb 13).trans rfl
  go_region
  go_wp2
  go_ret2
  exact ⟨rfl, by repeat (first | exact HB | apply zAI | apply zAh | apply below_drew1)⟩
set_option maxRecDepth 100000 in
set_option maxHeartbeats 4000000 in
theorem rules_7 (w : World) : Calls Tryd.prog 53 #[.int .i64 7] w fun e w' => e = .returned (.tuple #[.func (.func 67) #[] #[], .int .i64 2]) ∧ Below w.heap.size w w' := by
  have hu87 := Tryd.underlying87
  have hu86 := Tryd.underlying86
  have hu71 := Tryd.underlying71
  go_enter Tryd.func53, Tryd.ntmps53
  go_wp2
  have hb : (w.alloc (.cells ruleT 86)).heap[w.heap.size]? = some (.cells ruleT 86 (0, 0)) := new_row w _
  have HB : Below w.heap.size w (w.alloc (.cells ruleT 86)) := zAI (Below.refl _ _) _
  generalize w.alloc (.cells ruleT 86) = w1 at hb HB ⊢
  have h1 : w1.cell? ⟨w.heap.size, 14, none⟩ = some (.func (.func 67) #[] #[]) := (zAB hb 14).trans rfl
  have h2 : w1.cell? ⟨w.heap.size, 15, none⟩ = some (.int .i64 2) := (zAB hb 15).trans rfl
  go_region
  go_wp2
  go_ret2
  exact ⟨rfl, by repeat (first | exact HB | apply zAI | apply zAh | apply below_drew1)⟩
set_option maxRecDepth 100000 in
set_option maxHeartbeats 4000000 in
theorem rules_8 (w : World) : Calls Tryd.prog 53 #[.int .i64 8] w fun e w' => e = .returned (.tuple #[.func (.func 68) #[] #[], .int .i64 2]) ∧ Below w.heap.size w w' := by
  have hu87 := Tryd.underlying87
  have hu86 := Tryd.underlying86
  have hu71 := Tryd.underlying71
  go_enter Tryd.func53, Tryd.ntmps53
  go_wp2
  have hb : (w.alloc (.cells ruleT 86)).heap[w.heap.size]? = some (.cells ruleT 86 (0, 0)) := new_row w _
  have HB : Below w.heap.size w (w.alloc (.cells ruleT 86)) := zAI (Below.refl _ _) _
  generalize w.alloc (.cells ruleT 86) = w1 at hb HB ⊢
  have h1 : w1.cell? ⟨w.heap.size, 16, none⟩ = some (.func (.func 68) #[] #[]) := (zAB hb 16).trans rfl
  have h2 : w1.cell? ⟨w.heap.size, 17, none⟩ = some (.int .i64 2) := (zAB hb 17).trans rfl
  go_region
  go_wp2
  go_ret2
  exact ⟨rfl, by repeat (first | exact HB | apply zAI | apply zAh | apply below_drew1)⟩
set_option maxRecDepth 100000 in
set_option maxHeartbeats 4000000 in
theorem rules_9 (w : World) : Calls Tryd.prog 53 #[.int .i64 9] w fun e w' => e = .returned (.tuple #[.func (.func 67) #[] #[], .int .i64 (-1)]) ∧ Below w.heap.size w w' := by
  have hu87 := Tryd.underlying87
  have hu86 := Tryd.underlying86
  have hu71 := Tryd.underlying71
  go_enter Tryd.func53, Tryd.ntmps53
  go_wp2
  have hb : (w.alloc (.cells ruleT 86)).heap[w.heap.size]? = some (.cells ruleT 86 (0, 0)) := new_row w _
  have HB : Below w.heap.size w (w.alloc (.cells ruleT 86)) := zAI (Below.refl _ _) _
  generalize w.alloc (.cells ruleT 86) = w1 at hb HB ⊢
  have h1 : w1.cell? ⟨w.heap.size, 18, none⟩ = some (.func (.func 67) #[] #[]) := (zAB hb 18).trans rfl
  have h2 : w1.cell? ⟨w.heap.size, 19, none⟩ = some (.int .i64 (-1)) := (zAB hb 19).trans rfl
  go_region
  go_wp2
  go_ret2
  exact ⟨rfl, by repeat (first | exact HB | apply zAI | apply zAh | apply below_drew1)⟩
set_option maxRecDepth 100000 in
set_option maxHeartbeats 4000000 in
theorem rules_10 (w : World) : Calls Tryd.prog 53 #[.int .i64 10] w fun e w' => e = .returned (.tuple #[.func (.func 67) #[] #[], .int .i64 (-1)]) ∧ Below w.heap.size w w' := by
  have hu87 := Tryd.underlying87
  have hu86 := Tryd.underlying86
  have hu71 := Tryd.underlying71
  go_enter Tryd.func53, Tryd.ntmps53
  go_wp2
  have hb : (w.alloc (.cells ruleT 86)).heap[w.heap.size]? = some (.cells ruleT 86 (0, 0)) := new_row w _
  have HB : Below w.heap.size w (w.alloc (.cells ruleT 86)) := zAI (Below.refl _ _) _
  generalize w.alloc (.cells ruleT 86) = w1 at hb HB ⊢
  have h1 : w1.cell? ⟨w.heap.size, 20, none⟩ = some (.func (.func 67) #[] #[]) := (zAB hb 20).trans rfl
  have h2 : w1.cell? ⟨w.heap.size, 21, none⟩ = some (.int .i64 (-1)) := (zAB hb 21).trans rfl
  go_region
  go_wp2
  go_ret2
  exact ⟨rfl, by repeat (first | exact HB | apply zAI | apply zAh | apply below_drew1)⟩
set_option maxRecDepth 100000 in
set_option maxHeartbeats 4000000 in
theorem rules_11 (w : World) : Calls Tryd.prog 53 #[.int .i64 11] w fun e w' => e = .returned (.tuple #[.func (.func 69) #[] #[], .int .i64 1]) ∧ Below w.heap.size w w' := by
  have hu87 := Tryd.underlying87
  have hu86 := Tryd.underlying86
  have hu71 := Tryd.underlying71
  go_enter Tryd.func53, Tryd.ntmps53
  go_wp2
  have hb : (w.alloc (.cells ruleT 86)).heap[w.heap.size]? = some (.cells ruleT 86 (0, 0)) := new_row w _
  have HB : Below w.heap.size w (w.alloc (.cells ruleT 86)) := zAI (Below.refl _ _) _
  generalize w.alloc (.cells ruleT 86) = w1 at hb HB ⊢
  have h1 : w1.cell? ⟨w.heap.size, 22, none⟩ = some (.func (.func 69) #[] #[]) := (zAB hb 22).trans rfl
  have h2 : w1.cell? ⟨w.heap.size, 23, none⟩ = some (.int .i64 1) := (zAB hb 23).trans rfl
  go_region
  go_wp2
  go_ret2
  exact ⟨rfl, by repeat (first | exact HB | apply zAI | apply zAh | apply below_drew1)⟩
set_option maxRecDepth 100000 in
set_option maxHeartbeats 4000000 in
theorem rules_12 (w : World) : Calls Tryd.prog 53 #[.int .i64 12] w fun e w' => e = .returned (.tuple #[.func (.func 69) #[] #[], .int .i64 1]) ∧ Below w.heap.size w w' := by
  have hu87 := Tryd.underlying87
  have hu86 := Tryd.underlying86
  have hu71 := Tryd.underlying71
  go_enter Tryd.func53, Tryd.ntmps53
  go_wp2
  have hb : (w.alloc (.cells ruleT 86)).heap[w.heap.size]? = some (.cells ruleT 86 (0, 0)) := new_row w _
  have HB : Below w.heap.size w (w.alloc (.cells ruleT 86)) := zAI (Below.refl _ _) _
  generalize w.alloc (.cells ruleT 86) = w1 at hb HB ⊢
  have h1 : w1.cell? ⟨w.heap.size, 24, none⟩ = some (.func (.func 69) #[] #[]) := (zAB hb 24).trans rfl
  have h2 : w1.cell? ⟨w.heap.size, 25, none⟩ = some (.int .i64 1) := (zAB hb 25).trans rfl
  go_region
  go_wp2
  go_ret2
  exact ⟨rfl, by repeat (first | exact HB | apply zAI | apply zAh | apply below_drew1)⟩
set_option maxRecDepth 100000 in
set_option maxHeartbeats 4000000 in
theorem rules_13 (w : World) : Calls Tryd.prog 53 #[.int .i64 13] w fun e w' => e = .returned (.tuple #[.func (.func 70) #[] #[], .int .i64 1]) ∧ Below w.heap.size w w' := by
  have hu87 := Tryd.underlying87
  have hu86 := Tryd.underlying86
  have hu71 := Tryd.underlying71
  go_enter Tryd.func53, Tryd.ntmps53
  go_wp2
  have hb : (w.alloc (.cells ruleT 86)).heap[w.heap.size]? = some (.cells ruleT 86 (0, 0)) := new_row w _
  have HB : Below w.heap.size w (w.alloc (.cells ruleT 86)) := zAI (Below.refl _ _) _
  generalize w.alloc (.cells ruleT 86) = w1 at hb HB ⊢
  have h1 : w1.cell? ⟨w.heap.size, 26, none⟩ = some (.func (.func 70) #[] #[]) := (zAB hb 26).trans rfl
  have h2 : w1.cell? ⟨w.heap.size, 27, none⟩ = some (.int .i64 1) := (zAB hb 27).trans rfl
  go_region
  go_wp2
  go_ret2
  exact ⟨rfl, by repeat (first | exact HB | apply zAI | apply zAh | apply below_drew1)⟩
set_option maxRecDepth 100000 in
set_option maxHeartbeats 4000000 in
theorem rules_14 (w : World) : Calls Tryd.prog 53 #[.int .i64 14] w fun e w' => e = .returned (.tuple #[.func (.func 70) #[] #[], .int .i64 1]) ∧ Below w.heap.size w w' := by
  have hu87 := Tryd.underlying87
  have hu86 := Tryd.underlying86
  have hu71 := Tryd.underlying71
  go_enter Tryd.func53, Tryd.ntmps53
  go_wp2
  have hb : (w.alloc (.cells ruleT 86)).heap[w.heap.size]? = some (.cells ruleT 86 (0, 0)) := new_row w _
  have HB : Below w.heap.size w (w.alloc (.cells ruleT 86)) := zAI (Below.refl _ _) _
  generalize w.alloc (.cells ruleT 86) = w1 at hb HB ⊢
  have h1 : w1.cell? ⟨w.heap.size, 28, none⟩ = some (.func (.func 70) #[] #[]) := (zAB hb 28).trans rfl
  have h2 : w1.cell? ⟨w.heap.size, 29, none⟩ = some (.int .i64 1) := (zAB hb 29).trans rfl
  go_region
  go_wp2
  go_ret2
  exact ⟨rfl, by repeat (first | exact HB | apply zAI | apply zAh | apply below_drew1)⟩
set_option maxRecDepth 100000 in
set_option maxHeartbeats 4000000 in
theorem rules_15 (w : World) : Calls Tryd.prog 53 #[.int .i64 15] w fun e w' => e = .returned (.tuple #[.func (.func 71) #[] #[], .int .i64 1]) ∧ Below w.heap.size w w' := by
  have hu87 := Tryd.underlying87
  have hu86 := Tryd.underlying86
  have hu71 := Tryd.underlying71
  go_enter Tryd.func53, Tryd.ntmps53
  go_wp2
  have hb : (w.alloc (.cells ruleT 86)).heap[w.heap.size]? = some (.cells ruleT 86 (0, 0)) := new_row w _
  have HB : Below w.heap.size w (w.alloc (.cells ruleT 86)) := zAI (Below.refl _ _) _
  generalize w.alloc (.cells ruleT 86) = w1 at hb HB ⊢
  have h1 : w1.cell? ⟨w.heap.size, 30, none⟩ = some (.func (.func 71) #[] #[]) := (zAB hb 30).trans rfl
  have h2 : w1.cell? ⟨w.heap.size, 31, none⟩ = some (.int .i64 1) := (zAB hb 31).trans rfl
  go_region
  go_wp2
  go_ret2
  exact ⟨rfl, by repeat (first | exact HB | apply zAI | apply zAh | apply below_drew1)⟩
set_option maxRecDepth 100000 in
set_option maxHeartbeats 4000000 in
theorem rules_16 (w : World) : Calls Tryd.prog 53 #[.int .i64 16] w fun e w' => e = .returned (.tuple #[.func (.func 72) #[] #[], .int .i64 3]) ∧ Below w.heap.size w w' := by
  have hu87 := Tryd.underlying87
  have hu86 := Tryd.underlying86
  have hu71 := Tryd.underlying71
  go_enter Tryd.func53, Tryd.ntmps53
  go_wp2
  have hb : (w.alloc (.cells ruleT 86)).heap[w.heap.size]? = some (.cells ruleT 86 (0, 0)) := new_row w _
  have HB : Below w.heap.size w (w.alloc (.cells ruleT 86)) := zAI (Below.refl _ _) _
  generalize w.alloc (.cells ruleT 86) = w1 at hb HB ⊢
  have h1 : w1.cell? ⟨w.heap.size, 32, none⟩ = some (.func (.func 72) #[] #[]) := (zAB hb 32).trans rfl
  have h2 : w1.cell? ⟨w.heap.size, 33, none⟩ = some (.int .i64 3) := (zAB hb 33).trans rfl
  go_region
  go_wp2
  go_ret2
  exact ⟨rfl, by repeat (first | exact HB | apply zAI | apply zAh | apply below_drew1)⟩
def numOf (k : Int) : Nat := if k = 1 then 63 else if k = 2 then 64 else if k = 3 then 65 else if k = 4 then 66 else if k = 5 then 67 else if k = 6 then 67 else if k = 7 then 67 else if k = 8 then 68 else if k = 9 then 67 else if k = 10 then 67 else if k = 11 then 69 else if k = 12 then 69 else if k = 13 then 70 else if k = 14 then 70 else if k = 15 then 71 else if k = 16 then 72 else 0
def kidsOf (k : Int) : Int := if k = 1 then 0 else if k = 2 then 0 else if k = 3 then 0 else if k = 4 then 0 else if k = 5 then 1 else if k = 6 then 2 else if k = 7 then 2 else if k = 8 then 2 else if k = 9 then -1 else if k = 10 then -1 else if k = 11 then 1 else if k = 12 then 1 else if k = 13 then 1 else if k = 14 then 1 else if k = 15 then 1 else if k = 16 then 3 else 0
def units_rules.f (a0 : Int) : Option (Int × Int) := if 1 ≤ a0 ∧ a0 ≤ 16 then some (a0, kidsOf a0) else none
theorem units_rules.calls (a0 : Int) (r1 : Int) (r2 : Int) (w : World) (h : units_rules.f a0 = some (r1, r2)) :
    Calls Tryd.prog 53 #[.int .i64 a0] w fun e w' => e = .returned (.tuple #[.func (.func (numOf r1)) #[] #[], .int .i64 r2]) ∧ Below w.heap.size w w' := by
  unfold units_rules.f at h
  split at h
  · rename_i hk
    have h_ : a0 = r1 ∧ kidsOf a0 = r2 := by simpa using h
    obtain ⟨rfl, rfl⟩ := h_
    have hc : a0 = 1 ∨ a0 = 2 ∨ a0 = 3 ∨ a0 = 4 ∨ a0 = 5 ∨ a0 = 6 ∨ a0 = 7 ∨ a0 = 8 ∨ a0 = 9 ∨ a0 = 10 ∨ a0 = 11 ∨ a0 = 12 ∨ a0 = 13 ∨ a0 = 14 ∨ a0 = 15 ∨ a0 = 16 := by omega
    rcases hc with rfl | rfl | rfl | rfl | rfl | rfl | rfl | rfl | rfl | rfl | rfl | rfl | rfl | rfl | rfl | rfl
    · exact rules_1 w
    · exact rules_2 w
    · exact rules_3 w
    · exact rules_4 w
    · exact rules_5 w
    · exact rules_6 w
    · exact rules_7 w
    · exact rules_8 w
    · exact rules_9 w
    · exact rules_10 w
    · exact rules_11 w
    · exact rules_12 w
    · exact rules_13 w
    · exact rules_14 w
    · exact rules_15 w
    · exact rules_16 w
  · cases h
end Go.Proofs.YthbnigjckjkmnaaDoor.S

namespace Go.Proofs.YthbnigjckjkmnaaDoor.S
open Go.RowKit Go.Proofs.YthbnigjckjkmnaaDoorW.PrintWords Go.Proofs.YthbnigjckjkmnaaDoorW.PrintLast Go.Proofs.YthbnigjckjkmnaaDoorW.PrintMore
attribute [local go_sem] max2_int min2_int max_two min_two max_three min_three max_four min_four
def units_node_number.f (a0_0:Int) (a0_1:Int) (a0_2:Int) (a0_3:Int) (l0_4:List (S45)) (a0_5:Int) (l0_6:List Int) (l0_7:List Bool):Option (Int):=some 0
set_option maxHeartbeats 8000000 in
set_option maxRecDepth 100000 in
theorem units_node_number.calls (a0_0:Int) (a0_1:Int) (a0_2:Int) (a0_3:Int) (A0_4:Option Addr) (c0_4:Nat) (l0_4:List (S45)) (a0_5:Int) (A0_6:Option Addr) (c0_6:Nat) (l0_6:List Int) (A0_7:Option Addr) (c0_7:Nat) (l0_7:List Bool) (r:Int) (w:World) (hr0_4:Kd.C k45 w A0_4 l0_4.length l0_4) (hc0_4:l0_4.length≤c0_4) (hr0_6:Kd.C (Kd.int .i64) w A0_6 l0_6.length l0_6) (hc0_6:l0_6.length≤c0_6) (hr0_7:Kd.C Kd.bool w A0_7 l0_7.length l0_7) (hc0_7:l0_7.length≤c0_7) (h:units_node_number.f a0_0 a0_1 a0_2 a0_3 l0_4 a0_5 l0_6 l0_7=some r) :
  Calls Tryd.prog 63 #[.agg #[.int .i64 a0_0,.int .i64 a0_1,.int .i64 a0_2,.int .i64 a0_3,.slice A0_4 l0_4.length c0_4,.int .i64 a0_5,.slice A0_6 l0_6.length c0_6,.slice A0_7 l0_7.length c0_7]] w fun e w'=>e = .returned (.int .i64 r)∧Below w.heap.size w w':=by
 have hu75:=Tryd.underlying75
 have HR0_4:=aK_ hr0_4
 have HC0_4:=aK_ hc0_4
 clear hr0_4 hc0_4
 have HR0_6:=aK_ hr0_6
 have HC0_6:=aK_ hc0_6
 clear hr0_6 hc0_6
 have HR0_7:=aK_ hr0_7
 have HC0_7:=aK_ hc0_7
 clear hr0_7 hc0_7
 have HB:=aK_ (Below.refl w.heap.size w)
 have H:(some 0)=some r:=h
 clear h
 obtain rfl:=Option.some.inj H
 go_enter Tryd.func63,Tryd.ntmps63
 go_wp2_with (first|((with_reducible refine zAZ (N:=1) rfl ?_);refine zAW ?hg (N:=1) ?hd (cs:=#[.int .i64 a0_0,.int .i64 a0_1,.int .i64 a0_2,.int .i64 a0_3,.slice A0_4 l0_4.length c0_4,.int .i64 a0_5,.slice A0_6 l0_6.length c0_6,.slice A0_7 l0_7.length c0_7]) (t:=75) ?hr ?_;(case hd=>rfl);(case hg=>rfl);(case hr=>first|(go_simp;done)|(go_simp;rfl));intro gb582 hg w2 hbox hb;have n0_:=aK_ (zAG (aH_ HB.out) hb);have n1_:=aK_ (hbox);have n2_:=aK_ ((by rw [hg];exact (zAD (aH_ HB.out)):w.heap.size≤gb582));have n3_:=aK_ ((by rw [hg];exact (zAD (aH_ HB.out)):w.heap.size≤gb582));clear HB;have HB:=n0_;have BK582:=n1_;have GW582:=n2_;have GE582:=n3_;clear n0_ n1_ n2_ n3_;clear hb hbox hg))
 go_ret
 exact ⟨by first|rfl|(simp [zAE,zAF] <;> rfl)|(simp [*,zAE,zAF] <;> rfl),aI_ HB.out GE582.out⟩
end Go.Proofs.YthbnigjckjkmnaaDoor.S

namespace Go.Proofs.YthbnigjckjkmnaaDoor.S
open Go.RowKit Go.Proofs.YthbnigjckjkmnaaDoorW.PrintWords Go.Proofs.YthbnigjckjkmnaaDoorW.PrintLast Go.Proofs.YthbnigjckjkmnaaDoorW.PrintMore
attribute [local go_sem] max2_int min2_int max_two min_two max_three min_three max_four min_four
def units_node_money.f (a0_0:Int) (a0_1:Int) (a0_2:Int) (a0_3:Int) (l0_4:List (S45)) (a0_5:Int) (l0_6:List Int) (l0_7:List Bool):Option (Int):=some 1
set_option maxHeartbeats 8000000 in
set_option maxRecDepth 100000 in
theorem units_node_money.calls (a0_0:Int) (a0_1:Int) (a0_2:Int) (a0_3:Int) (A0_4:Option Addr) (c0_4:Nat) (l0_4:List (S45)) (a0_5:Int) (A0_6:Option Addr) (c0_6:Nat) (l0_6:List Int) (A0_7:Option Addr) (c0_7:Nat) (l0_7:List Bool) (r:Int) (w:World) (hr0_4:Kd.C k45 w A0_4 l0_4.length l0_4) (hc0_4:l0_4.length≤c0_4) (hr0_6:Kd.C (Kd.int .i64) w A0_6 l0_6.length l0_6) (hc0_6:l0_6.length≤c0_6) (hr0_7:Kd.C Kd.bool w A0_7 l0_7.length l0_7) (hc0_7:l0_7.length≤c0_7) (h:units_node_money.f a0_0 a0_1 a0_2 a0_3 l0_4 a0_5 l0_6 l0_7=some r) :
  Calls Tryd.prog 64 #[.agg #[.int .i64 a0_0,.int .i64 a0_1,.int .i64 a0_2,.int .i64 a0_3,.slice A0_4 l0_4.length c0_4,.int .i64 a0_5,.slice A0_6 l0_6.length c0_6,.slice A0_7 l0_7.length c0_7]] w fun e w'=>e = .returned (.int .i64 r)∧Below w.heap.size w w':=by
 have hu75:=Tryd.underlying75
 have HR0_4:=aK_ hr0_4
 have HC0_4:=aK_ hc0_4
 clear hr0_4 hc0_4
 have HR0_6:=aK_ hr0_6
 have HC0_6:=aK_ hc0_6
 clear hr0_6 hc0_6
 have HR0_7:=aK_ hr0_7
 have HC0_7:=aK_ hc0_7
 clear hr0_7 hc0_7
 have HB:=aK_ (Below.refl w.heap.size w)
 have H:(some 1)=some r:=h
 clear h
 obtain rfl:=Option.some.inj H
 go_enter Tryd.func64,Tryd.ntmps64
 go_wp2_with (first|((with_reducible refine zAZ (N:=1) rfl ?_);refine zAW ?hg (N:=1) ?hd (cs:=#[.int .i64 a0_0,.int .i64 a0_1,.int .i64 a0_2,.int .i64 a0_3,.slice A0_4 l0_4.length c0_4,.int .i64 a0_5,.slice A0_6 l0_6.length c0_6,.slice A0_7 l0_7.length c0_7]) (t:=75) ?hr ?_;(case hd=>rfl);(case hg=>rfl);(case hr=>first|(go_simp;done)|(go_simp;rfl));intro gb583 hg w2 hbox hb;have n0_:=aK_ (zAG (aH_ HB.out) hb);have n1_:=aK_ (hbox);have n2_:=aK_ ((by rw [hg];exact (zAD (aH_ HB.out)):w.heap.size≤gb583));have n3_:=aK_ ((by rw [hg];exact (zAD (aH_ HB.out)):w.heap.size≤gb583));clear HB;have HB:=n0_;have BK583:=n1_;have GW583:=n2_;have GE583:=n3_;clear n0_ n1_ n2_ n3_;clear hb hbox hg))
 go_ret
 exact ⟨by first|rfl|(simp [zAE,zAF] <;> rfl)|(simp [*,zAE,zAF] <;> rfl),aI_ HB.out GE583.out⟩
end Go.Proofs.YthbnigjckjkmnaaDoor.S

namespace Go.Proofs.YthbnigjckjkmnaaDoor.S
open Go.RowKit Go.Proofs.YthbnigjckjkmnaaDoorW.PrintWords Go.Proofs.YthbnigjckjkmnaaDoorW.PrintLast Go.Proofs.YthbnigjckjkmnaaDoorW.PrintMore
attribute [local go_sem] max2_int min2_int max_two min_two max_three min_three max_four min_four
def units_node_quantity.f (a0_0:Int) (a0_1:Int) (a0_2:Int) (a0_3:Int) (l0_4:List (S45)) (a0_5:Int) (l0_6:List Int) (l0_7:List Bool):Option (Int):=some (wrap64 (2+(wrap64 (2 * a0_1))))
set_option maxHeartbeats 8000000 in
set_option maxRecDepth 100000 in
theorem units_node_quantity.calls (a0_0:Int) (a0_1:Int) (a0_2:Int) (a0_3:Int) (A0_4:Option Addr) (c0_4:Nat) (l0_4:List (S45)) (a0_5:Int) (A0_6:Option Addr) (c0_6:Nat) (l0_6:List Int) (A0_7:Option Addr) (c0_7:Nat) (l0_7:List Bool) (r:Int) (w:World) (hr0_4:Kd.C k45 w A0_4 l0_4.length l0_4) (hc0_4:l0_4.length≤c0_4) (hr0_6:Kd.C (Kd.int .i64) w A0_6 l0_6.length l0_6) (hc0_6:l0_6.length≤c0_6) (hr0_7:Kd.C Kd.bool w A0_7 l0_7.length l0_7) (hc0_7:l0_7.length≤c0_7) (h:units_node_quantity.f a0_0 a0_1 a0_2 a0_3 l0_4 a0_5 l0_6 l0_7=some r) :
  Calls Tryd.prog 65 #[.agg #[.int .i64 a0_0,.int .i64 a0_1,.int .i64 a0_2,.int .i64 a0_3,.slice A0_4 l0_4.length c0_4,.int .i64 a0_5,.slice A0_6 l0_6.length c0_6,.slice A0_7 l0_7.length c0_7]] w fun e w'=>e = .returned (.int .i64 r)∧Below w.heap.size w w':=by
 have hu75:=Tryd.underlying75
 have HR0_4:=aK_ hr0_4
 have HC0_4:=aK_ hc0_4
 clear hr0_4 hc0_4
 have HR0_6:=aK_ hr0_6
 have HC0_6:=aK_ hc0_6
 clear hr0_6 hc0_6
 have HR0_7:=aK_ hr0_7
 have HC0_7:=aK_ hc0_7
 clear hr0_7 hc0_7
 have HB:=aK_ (Below.refl w.heap.size w)
 have H:(some (wrap64 (2+(wrap64 (2 * a0_1)))))=some r:=h
 clear h
 obtain rfl:=Option.some.inj H
 go_enter Tryd.func65,Tryd.ntmps65
 go_wp2_with (first|((with_reducible refine zAZ (N:=1) rfl ?_);refine zAW ?hg (N:=1) ?hd (cs:=#[.int .i64 a0_0,.int .i64 a0_1,.int .i64 a0_2,.int .i64 a0_3,.slice A0_4 l0_4.length c0_4,.int .i64 a0_5,.slice A0_6 l0_6.length c0_6,.slice A0_7 l0_7.length c0_7]) (t:=75) ?hr ?_;(case hd=>rfl);(case hg=>rfl);(case hr=>first|(go_simp;done)|(go_simp;rfl));intro gb584 hg w2 hbox hb;have n0_:=aK_ (zAG (aH_ HB.out) hb);have n1_:=aK_ (hbox);have n2_:=aK_ ((by rw [hg];exact (zAD (aH_ HB.out)):w.heap.size≤gb584));have n3_:=aK_ ((by rw [hg];exact (zAD (aH_ HB.out)):w.heap.size≤gb584));clear HB;have HB:=n0_;have BK584:=n1_;have GW584:=n2_;have GE584:=n3_;clear n0_ n1_ n2_ n3_;clear hb hbox hg;have hcz3_0:w2.cell? ⟨gb584,0,none⟩=some (.int .i64 a0_0):=(zAB BK584.out 0).trans rfl;have hcz3_1:w2.cell? ⟨gb584,1,none⟩=some (.int .i64 a0_1):=(zAB BK584.out 1).trans rfl;have hcz3_2:w2.cell? ⟨gb584,2,none⟩=some (.int .i64 a0_2):=(zAB BK584.out 2).trans rfl;have hcz3_3:w2.cell? ⟨gb584,3,none⟩=some (.int .i64 a0_3):=(zAB BK584.out 3).trans rfl;have hcz3_4:w2.cell? ⟨gb584,4,none⟩=some (.slice A0_4 l0_4.length c0_4):=(zAB BK584.out 4).trans rfl;have hcz3_5:w2.cell? ⟨gb584,5,none⟩=some (.int .i64 a0_5):=(zAB BK584.out 5).trans rfl;have hcz3_6:w2.cell? ⟨gb584,6,none⟩=some (.slice A0_6 l0_6.length c0_6):=(zAB BK584.out 6).trans rfl;have hcz3_7:w2.cell? ⟨gb584,7,none⟩=some (.slice A0_7 l0_7.length c0_7):=(zAB BK584.out 7).trans rfl;have hfz3_0:=zAA BK584.out 0;have hfz3_1:=zAA BK584.out 1;have hfz3_2:=zAA BK584.out 2;have hfz3_3:=zAA BK584.out 3;have hfz3_4:=zAA BK584.out 4;have hfz3_5:=zAA BK584.out 5;have hfz3_6:=zAA BK584.out 6;have hfz3_7:=zAA BK584.out 7))
 go_ret
 exact ⟨by first|rfl|(simp [zAE,zAF] <;> rfl)|(simp [*,zAE,zAF] <;> rfl),aI_ HB.out GE584.out⟩
end Go.Proofs.YthbnigjckjkmnaaDoor.S

namespace Go.Proofs.YthbnigjckjkmnaaDoor.S
open Go.RowKit Go.Proofs.YthbnigjckjkmnaaDoorW.PrintWords Go.Proofs.YthbnigjckjkmnaaDoorW.PrintLast Go.Proofs.YthbnigjckjkmnaaDoorW.PrintMore
attribute [local go_sem] max2_int min2_int max_two min_two max_three min_three max_four min_four
def units_node_blocks.f (a0_0:Int) (a0_1:Int) (a0_2:Int) (a0_3:Int) (l0_4:List (S45)) (a0_5:Int) (l0_6:List Int) (l0_7:List Bool):Option (Int):=some (wrap64 (3+(wrap64 (2 * a0_1))))
set_option maxHeartbeats 8000000 in
set_option maxRecDepth 100000 in
theorem units_node_blocks.calls (a0_0:Int) (a0_1:Int) (a0_2:Int) (a0_3:Int) (A0_4:Option Addr) (c0_4:Nat) (l0_4:List (S45)) (a0_5:Int) (A0_6:Option Addr) (c0_6:Nat) (l0_6:List Int) (A0_7:Option Addr) (c0_7:Nat) (l0_7:List Bool) (r:Int) (w:World) (hr0_4:Kd.C k45 w A0_4 l0_4.length l0_4) (hc0_4:l0_4.length≤c0_4) (hr0_6:Kd.C (Kd.int .i64) w A0_6 l0_6.length l0_6) (hc0_6:l0_6.length≤c0_6) (hr0_7:Kd.C Kd.bool w A0_7 l0_7.length l0_7) (hc0_7:l0_7.length≤c0_7) (h:units_node_blocks.f a0_0 a0_1 a0_2 a0_3 l0_4 a0_5 l0_6 l0_7=some r) :
  Calls Tryd.prog 66 #[.agg #[.int .i64 a0_0,.int .i64 a0_1,.int .i64 a0_2,.int .i64 a0_3,.slice A0_4 l0_4.length c0_4,.int .i64 a0_5,.slice A0_6 l0_6.length c0_6,.slice A0_7 l0_7.length c0_7]] w fun e w'=>e = .returned (.int .i64 r)∧Below w.heap.size w w':=by
 have hu75:=Tryd.underlying75
 have HR0_4:=aK_ hr0_4
 have HC0_4:=aK_ hc0_4
 clear hr0_4 hc0_4
 have HR0_6:=aK_ hr0_6
 have HC0_6:=aK_ hc0_6
 clear hr0_6 hc0_6
 have HR0_7:=aK_ hr0_7
 have HC0_7:=aK_ hc0_7
 clear hr0_7 hc0_7
 have HB:=aK_ (Below.refl w.heap.size w)
 have H:(some (wrap64 (3+(wrap64 (2 * a0_1)))))=some r:=h
 clear h
 obtain rfl:=Option.some.inj H
 go_enter Tryd.func66,Tryd.ntmps66
 go_wp2_with (first|((with_reducible refine zAZ (N:=1) rfl ?_);refine zAW ?hg (N:=1) ?hd (cs:=#[.int .i64 a0_0,.int .i64 a0_1,.int .i64 a0_2,.int .i64 a0_3,.slice A0_4 l0_4.length c0_4,.int .i64 a0_5,.slice A0_6 l0_6.length c0_6,.slice A0_7 l0_7.length c0_7]) (t:=75) ?hr ?_;(case hd=>rfl);(case hg=>rfl);(case hr=>first|(go_simp;done)|(go_simp;rfl));intro gb585 hg w2 hbox hb;have n0_:=aK_ (zAG (aH_ HB.out) hb);have n1_:=aK_ (hbox);have n2_:=aK_ ((by rw [hg];exact (zAD (aH_ HB.out)):w.heap.size≤gb585));have n3_:=aK_ ((by rw [hg];exact (zAD (aH_ HB.out)):w.heap.size≤gb585));clear HB;have HB:=n0_;have BK585:=n1_;have GW585:=n2_;have GE585:=n3_;clear n0_ n1_ n2_ n3_;clear hb hbox hg;have hcz3_0:w2.cell? ⟨gb585,0,none⟩=some (.int .i64 a0_0):=(zAB BK585.out 0).trans rfl;have hcz3_1:w2.cell? ⟨gb585,1,none⟩=some (.int .i64 a0_1):=(zAB BK585.out 1).trans rfl;have hcz3_2:w2.cell? ⟨gb585,2,none⟩=some (.int .i64 a0_2):=(zAB BK585.out 2).trans rfl;have hcz3_3:w2.cell? ⟨gb585,3,none⟩=some (.int .i64 a0_3):=(zAB BK585.out 3).trans rfl;have hcz3_4:w2.cell? ⟨gb585,4,none⟩=some (.slice A0_4 l0_4.length c0_4):=(zAB BK585.out 4).trans rfl;have hcz3_5:w2.cell? ⟨gb585,5,none⟩=some (.int .i64 a0_5):=(zAB BK585.out 5).trans rfl;have hcz3_6:w2.cell? ⟨gb585,6,none⟩=some (.slice A0_6 l0_6.length c0_6):=(zAB BK585.out 6).trans rfl;have hcz3_7:w2.cell? ⟨gb585,7,none⟩=some (.slice A0_7 l0_7.length c0_7):=(zAB BK585.out 7).trans rfl;have hfz3_0:=zAA BK585.out 0;have hfz3_1:=zAA BK585.out 1;have hfz3_2:=zAA BK585.out 2;have hfz3_3:=zAA BK585.out 3;have hfz3_4:=zAA BK585.out 4;have hfz3_5:=zAA BK585.out 5;have hfz3_6:=zAA BK585.out 6;have hfz3_7:=zAA BK585.out 7))
 go_ret
 exact ⟨by first|rfl|(simp [zAE,zAF] <;> rfl)|(simp [*,zAE,zAF] <;> rfl),aI_ HB.out GE585.out⟩
end Go.Proofs.YthbnigjckjkmnaaDoor.S

namespace Go.Proofs.YthbnigjckjkmnaaDoor.S
open Go.RowKit Go.Proofs.YthbnigjckjkmnaaDoorW.PrintWords Go.Proofs.YthbnigjckjkmnaaDoorW.PrintLast Go.Proofs.YthbnigjckjkmnaaDoorW.PrintMore
attribute [local go_sem] max2_int min2_int max_two min_two max_three min_three max_four min_four
def zAk.l0:Nat→Int→List Int→Int→Int→Int→Int→Int→Int→List (S45)→Int→List Int→List Bool→Option (Int)
 |0,_,_,_,_,_,_,_,_,_,_,_,_=>none
 |k+1,x1,x10,x11,x12,x587000,x587001,x587002,x587003,x587004,x587005,x587006,x587007=>if x12<x11 then (if 0≤x12 then (if x12<(x10.length:Int) then (if 0≤x1 then (if x1<(x587006.length:Int) then (if (rd x10 x12)=(rd x587006 x1) then (zAk.l0 k x1 x10 x11 (wrap64 (x12+1)) x587000 x587001 x587002 x587003 x587004 x587005 x587006 x587007) else (some (-1))) else (none)) else (none)) else (none)) else (none)) else (if 0≤x1 then (if x1<(x587006.length:Int) then (some (rd x587006 x1)) else (none)) else (none))
def zAk.f (k:Nat) (a0_0:Int) (a0_1:Int) (a0_2:Int) (a0_3:Int) (l0_4:List (S45)) (a0_5:Int) (l0_6:List Int) (l0_7:List Bool) (a1:Int):Option (Int):=if 0≤a1 then (if a1≤(l0_6.length:Int) then (zAk.l0 k a1 (l0_6.drop (a1:Int).toNat) ((l0_6.drop (a1:Int).toNat).length:Int) 0 a0_0 a0_1 a0_2 a0_3 l0_4 a0_5 l0_6 l0_7) else (none)) else (none)
theorem zAk.mono_l:∀ k,(∀ y0 y1 y2 y3 y4 y5 y6 y7 y8 y9 y10 y11,LeO (zAk.l0 k y0 y1 y2 y3 y4 y5 y6 y7 y8 y9 y10 y11) (zAk.l0 (k+1) y0 y1 y2 y3 y4 y5 y6 y7 y8 y9 y10 y11))
 |0=>fun _ _ _ _ _ _ _ _ _ _ _ _ r h=>by simp [zAk.l0] at h
 |k+1=>by
  have ih0:=zAk.mono_l k
  ·intro y0 y1 y2 y3 y4 y5 y6 y7 y8 y9 y10 y11
   unfold zAk.l0
   repeat' first
   |(with_reducible exact ih0 _ _ _ _ _ _ _ _ _ _ _ _)
   |(with_reducible exact LeO.refl _)
   |(with_reducible exact LeO.none _)
   |(with_reducible refine LeO.ite ?_ ?_)
   |(with_reducible refine LeO.bind ?_ (fun _=>?_))
   |exact ih0 _ _ _ _ _ _ _ _ _ _ _ _
   |exact LeO.none _
   |refine LeO.ite ?_ ?_
   |refine LeO.bind ?_ (fun _=>?_)
theorem zAk.mono:∀ a0 a1 a2 a3 a4 a5 a6 a7 a8 k,LeO (zAk.f k a0 a1 a2 a3 a4 a5 a6 a7 a8) (zAk.f (k+1) a0 a1 a2 a3 a4 a5 a6 a7 a8):=by
 intro a0 a1 a2 a3 a4 a5 a6 a7 a8 k
 have ih0:=zAk.mono_l k
 unfold zAk.f
 repeat' first
   |(with_reducible exact ih0 _ _ _ _ _ _ _ _ _ _ _ _)
   |(with_reducible exact LeO.refl _)
   |(with_reducible exact LeO.none _)
   |(with_reducible refine LeO.ite ?_ ?_)
   |(with_reducible refine LeO.bind ?_ (fun _=>?_))
   |exact ih0 _ _ _ _ _ _ _ _ _ _ _ _
   |exact LeO.none _
   |refine LeO.ite ?_ ?_
   |refine LeO.bind ?_ (fun _=>?_)
set_option maxHeartbeats 8000000 in
set_option maxRecDepth 100000 in
theorem zAk.calls (k:Nat) (a0_0:Int) (a0_1:Int) (a0_2:Int) (a0_3:Int) (A0_4:Option Addr) (c0_4:Nat) (l0_4:List (S45)) (a0_5:Int) (A0_6:Option Addr) (c0_6:Nat) (l0_6:List Int) (A0_7:Option Addr) (c0_7:Nat) (l0_7:List Bool) (a1:Int) (r:Int) (w:World) (hr0_4:Kd.C k45 w A0_4 l0_4.length l0_4) (hc0_4:l0_4.length≤c0_4) (hr0_6:Kd.C (Kd.int .i64) w A0_6 l0_6.length l0_6) (hc0_6:l0_6.length≤c0_6) (hr0_7:Kd.C Kd.bool w A0_7 l0_7.length l0_7) (hc0_7:l0_7.length≤c0_7) (h:zAk.f k a0_0 a0_1 a0_2 a0_3 l0_4 a0_5 l0_6 l0_7 a1=some r) :
  Calls Tryd.prog 84 #[.agg #[.int .i64 a0_0,.int .i64 a0_1,.int .i64 a0_2,.int .i64 a0_3,.slice A0_4 l0_4.length c0_4,.int .i64 a0_5,.slice A0_6 l0_6.length c0_6,.slice A0_7 l0_7.length c0_7],.int .i64 a1] w fun e w'=>e = .returned (.int .i64 r)∧Below w.heap.size w w':=by
 have hu75:=Tryd.underlying75
 have HR0_4:=aK_ hr0_4
 have HC0_4:=aK_ hc0_4
 clear hr0_4 hc0_4
 have HR0_6:=aK_ hr0_6
 have HC0_6:=aK_ hc0_6
 clear hr0_6 hc0_6
 have HR0_7:=aK_ hr0_7
 have HC0_7:=aK_ hc0_7
 clear hr0_7 hc0_7
 have HB:=aK_ (Below.refl w.heap.size w)
 have H:(if 0≤a1 then (if a1≤(l0_6.length:Int) then (zAk.l0 k a1 (l0_6.drop (a1:Int).toNat) ((l0_6.drop (a1:Int).toNat).length:Int) 0 a0_0 a0_1 a0_2 a0_3 l0_4 a0_5 l0_6 l0_7) else (none)) else (none))=some r:=h
 clear h
 by_cases c3:0≤a1
 rotate_left
 ·rw [if_neg c3] at H
  exact absurd H (by simp)
 rw [if_pos c3] at H
 have c3b0:=eq_true c3
 have c3b1:decide (0≤a1)=true:=decide_eq_true c3
 clear c3
 have c4:=yes_ H
 rw [if_pos c4] at H
 have c4b0:=eq_true c4
 have c4b1:decide (a1≤(l0_6.length:Int))=true:=decide_eq_true c4
 clear c4
 obtain ⟨y10,hy10⟩:∃ y_:List Int,y_=l0_6.drop (a1:Int).toNat:=⟨_,rfl⟩
 rw [← hy10] at H
 have Ny10:=aK_ hy10
 clear hy10
 have H':=aK_ H
 clear H
 go_enter Tryd.func84,Tryd.ntmps84
 go_wp2_with (first|((with_reducible refine zAZ (N:=2) rfl ?_);refine zAW ?hg (N:=2) ?hd (cs:=#[.int .i64 a0_0,.int .i64 a0_1,.int .i64 a0_2,.int .i64 a0_3,.slice A0_4 l0_4.length c0_4,.int .i64 a0_5,.slice A0_6 l0_6.length c0_6,.slice A0_7 l0_7.length c0_7]) (t:=75) ?hr ?_;(case hd=>rfl);(case hg=>rfl);(case hr=>first|(go_simp;done)|(go_simp;rfl));intro gb586 hg w5 hbox hb;have n0_:=aK_ (zAG (aH_ HB.out) hb);have n1_:=aK_ (hbox);have n2_:=aK_ ((by rw [hg];exact (zAD (aH_ HB.out)):w.heap.size≤gb586));have n3_:=aK_ ((by rw [hg];exact (zAD (aH_ HB.out)):w.heap.size≤gb586));clear HB;have HB:=n0_;have BK586:=n1_;have GW586:=n2_;have GE586:=n3_;clear n0_ n1_ n2_ n3_;clear hb hbox hg;have hcz6_0:w5.cell? ⟨gb586,0,none⟩=some (.int .i64 a0_0):=(zAB BK586.out 0).trans rfl;have hcz6_1:w5.cell? ⟨gb586,1,none⟩=some (.int .i64 a0_1):=(zAB BK586.out 1).trans rfl;have hcz6_2:w5.cell? ⟨gb586,2,none⟩=some (.int .i64 a0_2):=(zAB BK586.out 2).trans rfl;have hcz6_3:w5.cell? ⟨gb586,3,none⟩=some (.int .i64 a0_3):=(zAB BK586.out 3).trans rfl;have hcz6_4:w5.cell? ⟨gb586,4,none⟩=some (.slice A0_4 l0_4.length c0_4):=(zAB BK586.out 4).trans rfl;have hcz6_5:w5.cell? ⟨gb586,5,none⟩=some (.int .i64 a0_5):=(zAB BK586.out 5).trans rfl;have hcz6_6:w5.cell? ⟨gb586,6,none⟩=some (.slice A0_6 l0_6.length c0_6):=(zAB BK586.out 6).trans rfl;have hcz6_7:w5.cell? ⟨gb586,7,none⟩=some (.slice A0_7 l0_7.length c0_7):=(zAB BK586.out 7).trans rfl;have hfz6_0:=zAA BK586.out 0;have hfz6_1:=zAA BK586.out 1;have hfz6_2:=zAA BK586.out 2;have hfz6_3:=zAA BK586.out 3;have hfz6_4:=zAA BK586.out 4;have hfz6_5:=zAA BK586.out 5;have hfz6_6:=zAA BK586.out 6;have hfz6_7:=zAA BK586.out 7;obtain ⟨i07,hi07,_,hsz7,_⟩:=info_parts info3;obtain ⟨A7,hcut7,hA7,hC7⟩:=print_drop_of (P:=Tryd.prog) (Value.int .i64) 0 36 3 .i64 Tryd.underlying36 hi07 hsz7 A0_6 c0_6 l0_6 a1 aD_ aD_ HC0_6.out;have HR587:=aK_ (Kd.C_of_reads (h1:=fun _=>rfl) (hA7 _ (Kd.reads_of_C HR0_6.out)));have HC587:=aK_ hC7;rw [← Ny10.out] at hcut7 HR587 HC587;clear hA7 hC7 hi07 hsz7))
 (try simp only [Act.put,List.setIfInBounds_toArray,List.set_cons_zero,List.set_cons_succ])
 go_loopg [12] k (fun kq v12 w'=>∃ (x12_1:Int),v12 = .int .i64 x12_1∧zAa (zAk.l0 kq a1 y10 (y10.length:Int) x12_1 a0_0 a0_1 a0_2 a0_3 l0_4 a0_5 l0_6 l0_7=some r)∧zAa (kq≤k)∧zAa (w'.heap[gb586]?=some (.cells #[.int .i64 a0_0,.int .i64 a0_1,.int .i64 a0_2,.int .i64 a0_3,(.slice A0_4 l0_4.length c0_4),.int .i64 a0_5,(.slice A0_6 l0_6.length c0_6),(.slice A0_7 l0_7.length c0_7)] 75 (0,0)))∧zAa (Below w.heap.size w w'))
 case atStart=>exact ⟨(0),aS2_,H',⟨Nat.le_refl _⟩,⟨aB_ BK586.out⟩,⟨aI_ HB.out GE586.out⟩⟩
 clear H'
 try clear p2
 try clear c3
 try clear c3b0
 try clear c3b1
 try clear c4
 try clear c4b0
 try clear c4b1
 try clear hcz6_0
 try clear hcz6_1
 try clear hcz6_2
 try clear hcz6_3
 try clear hcz6_4
 try clear hcz6_5
 try clear hcz6_6
 try clear hcz6_7
 try clear hfz6_0
 try clear hfz6_1
 try clear hfz6_2
 try clear hfz6_3
 try clear hfz6_4
 try clear hfz6_5
 try clear hfz6_6
 try clear hfz6_7
 obtain ⟨x12_1,rfl,HA,HK1,BK586,HB⟩:=hrel
 cases gk with
 |zero=>exact absurd HA.out (by simp [zAk.l0])
 |succ k1=>?_
 have H:=HA.out
 clear HA
 simp only [zAk.l0] at H
 by_cases c8:x12_1<(y10.length:Int)
 rotate_left
 ·rw [if_neg c8] at H
  have c8b0:decide (x12_1<(y10.length:Int))=false:=decide_eq_false c8
  clear c8
  have c16:=yes_ H
  rw [if_pos c16] at H
  have c16b0:decide (0≤a1)=true:=decide_eq_true c16
  clear c16
  have c17:=yes_ H
  rw [if_pos c17] at H
  have c17b0:decide (a1<(l0_6.length:Int))=true:=decide_eq_true c17
  clear c17
  obtain rfl:=Option.some.inj H
  have hcz18_0:wr.cell? ⟨gb586,0,none⟩=some (.int .i64 a0_0):=(zAB BK586.out 0).trans rfl
  have hcz18_1:wr.cell? ⟨gb586,1,none⟩=some (.int .i64 a0_1):=(zAB BK586.out 1).trans rfl
  have hcz18_2:wr.cell? ⟨gb586,2,none⟩=some (.int .i64 a0_2):=(zAB BK586.out 2).trans rfl
  have hcz18_3:wr.cell? ⟨gb586,3,none⟩=some (.int .i64 a0_3):=(zAB BK586.out 3).trans rfl
  have hcz18_4:wr.cell? ⟨gb586,4,none⟩=some (.slice A0_4 l0_4.length c0_4):=(zAB BK586.out 4).trans rfl
  have hcz18_5:wr.cell? ⟨gb586,5,none⟩=some (.int .i64 a0_5):=(zAB BK586.out 5).trans rfl
  have hcz18_6:wr.cell? ⟨gb586,6,none⟩=some (.slice A0_6 l0_6.length c0_6):=(zAB BK586.out 6).trans rfl
  have hcz18_7:wr.cell? ⟨gb586,7,none⟩=some (.slice A0_7 l0_7.length c0_7):=(zAB BK586.out 7).trans rfl
  have hfz18_0:=zAA BK586.out 0
  have hfz18_1:=zAA BK586.out 1
  have hfz18_2:=zAA BK586.out 2
  have hfz18_3:=zAA BK586.out 3
  have hfz18_4:=zAA BK586.out 4
  have hfz18_5:=zAA BK586.out 5
  have hfz18_6:=zAA BK586.out 6
  have hfz18_7:=zAA BK586.out 7
  have p590:0≤(a1:Int):=aD_
  have q590:a1<(l0_6.length:Int):=aD_
  obtain ⟨ad590,e590,hx590_0⟩:=Kd.at_int HR0_6.out a1 p590 q590
  cases e590
  replace hx590_0:=(HB.out.cell (World.block_lt_of_cell? w _ hx590_0)).trans hx590_0
  replace p590:=eq_true p590
  replace q590:=eq_true q590
  go_wp2
  go_ret
  exact ⟨by first|rfl|(simp [zAE,zAF] <;> rfl)|(simp [*,zAE,zAF] <;> rfl),aI_ HB.out GE586.out⟩
 rw [if_pos c8] at H
 have c8b0:decide (x12_1<(y10.length:Int))=true:=decide_eq_true c8
 clear c8
 have c9:=yes_ H
 rw [if_pos c9] at H
 have c9b0:decide (0≤x12_1)=true:=decide_eq_true c9
 clear c9
 have c10:=yes_ H
 rw [if_pos c10] at H
 have c10b0:decide (x12_1<(y10.length:Int))=true:=decide_eq_true c10
 clear c10
 have c11:=yes_ H
 rw [if_pos c11] at H
 have c11b0:decide (0≤a1)=true:=decide_eq_true c11
 clear c11
 have c12:=yes_ H
 rw [if_pos c12] at H
 have c12b0:decide (a1<(l0_6.length:Int))=true:=decide_eq_true c12
 clear c12
 by_cases c13:(rd y10 x12_1)=(rd l0_6 a1)
 rotate_left
 ·rw [if_neg c13] at H
  have c13b0:((rd y10 x12_1) == (rd l0_6 a1))=false:=beq_eq_false_iff_ne.mpr c13
  have c13b1:((rd y10 x12_1) != (rd l0_6 a1))=true:=bne_iff_ne.mpr c13
  obtain rfl:=Option.some.inj H
  have p588:0≤(x12_1:Int):=aD_
  have q588:x12_1<(y10.length:Int):=aD_
  obtain ⟨ad588,e588,hx588_0⟩:=Kd.at_int HR587.out x12_1 p588 q588
  cases e588
  replace hx588_0:=(HB.out.cell (World.block_lt_of_cell? w _ hx588_0)).trans hx588_0
  replace p588:=eq_true p588
  replace q588:=eq_true q588
  have hcz15_0:wr.cell? ⟨gb586,0,none⟩=some (.int .i64 a0_0):=(zAB BK586.out 0).trans rfl
  have hcz15_1:wr.cell? ⟨gb586,1,none⟩=some (.int .i64 a0_1):=(zAB BK586.out 1).trans rfl
  have hcz15_2:wr.cell? ⟨gb586,2,none⟩=some (.int .i64 a0_2):=(zAB BK586.out 2).trans rfl
  have hcz15_3:wr.cell? ⟨gb586,3,none⟩=some (.int .i64 a0_3):=(zAB BK586.out 3).trans rfl
  have hcz15_4:wr.cell? ⟨gb586,4,none⟩=some (.slice A0_4 l0_4.length c0_4):=(zAB BK586.out 4).trans rfl
  have hcz15_5:wr.cell? ⟨gb586,5,none⟩=some (.int .i64 a0_5):=(zAB BK586.out 5).trans rfl
  have hcz15_6:wr.cell? ⟨gb586,6,none⟩=some (.slice A0_6 l0_6.length c0_6):=(zAB BK586.out 6).trans rfl
  have hcz15_7:wr.cell? ⟨gb586,7,none⟩=some (.slice A0_7 l0_7.length c0_7):=(zAB BK586.out 7).trans rfl
  have hfz15_0:=zAA BK586.out 0
  have hfz15_1:=zAA BK586.out 1
  have hfz15_2:=zAA BK586.out 2
  have hfz15_3:=zAA BK586.out 3
  have hfz15_4:=zAA BK586.out 4
  have hfz15_5:=zAA BK586.out 5
  have hfz15_6:=zAA BK586.out 6
  have hfz15_7:=zAA BK586.out 7
  have p589:0≤(a1:Int):=aD_
  have q589:a1<(l0_6.length:Int):=aD_
  obtain ⟨ad589,e589,hx589_0⟩:=Kd.at_int HR0_6.out a1 p589 q589
  cases e589
  replace hx589_0:=(HB.out.cell (World.block_lt_of_cell? w _ hx589_0)).trans hx589_0
  replace p589:=eq_true p589
  replace q589:=eq_true q589
  go_wp2
  go_ret
  exact ⟨by first|rfl|(simp [zAE,zAF] <;> rfl)|(simp [*,zAE,zAF] <;> rfl),aI_ HB.out GE586.out⟩
 rw [if_pos c13] at H
 have c13b0:((rd y10 x12_1) == (rd l0_6 a1))=true:=beq_iff_eq.mpr c13
 have c13b1:((rd y10 x12_1) != (rd l0_6 a1))=false:=bne_eq_false_iff_eq.mpr c13
 clear c13
 have H':=aK_ H
 clear H
 have p588:0≤(x12_1:Int):=aD_
 have q588:x12_1<(y10.length:Int):=aD_
 obtain ⟨ad588,e588,hx588_0⟩:=Kd.at_int HR587.out x12_1 p588 q588
 cases e588
 replace hx588_0:=(HB.out.cell (World.block_lt_of_cell? w _ hx588_0)).trans hx588_0
 replace p588:=eq_true p588
 replace q588:=eq_true q588
 have hcz14_0:wr.cell? ⟨gb586,0,none⟩=some (.int .i64 a0_0):=(zAB BK586.out 0).trans rfl
 have hcz14_1:wr.cell? ⟨gb586,1,none⟩=some (.int .i64 a0_1):=(zAB BK586.out 1).trans rfl
 have hcz14_2:wr.cell? ⟨gb586,2,none⟩=some (.int .i64 a0_2):=(zAB BK586.out 2).trans rfl
 have hcz14_3:wr.cell? ⟨gb586,3,none⟩=some (.int .i64 a0_3):=(zAB BK586.out 3).trans rfl
 have hcz14_4:wr.cell? ⟨gb586,4,none⟩=some (.slice A0_4 l0_4.length c0_4):=(zAB BK586.out 4).trans rfl
 have hcz14_5:wr.cell? ⟨gb586,5,none⟩=some (.int .i64 a0_5):=(zAB BK586.out 5).trans rfl
 have hcz14_6:wr.cell? ⟨gb586,6,none⟩=some (.slice A0_6 l0_6.length c0_6):=(zAB BK586.out 6).trans rfl
 have hcz14_7:wr.cell? ⟨gb586,7,none⟩=some (.slice A0_7 l0_7.length c0_7):=(zAB BK586.out 7).trans rfl
 have hfz14_0:=zAA BK586.out 0
 have hfz14_1:=zAA BK586.out 1
 have hfz14_2:=zAA BK586.out 2
 have hfz14_3:=zAA BK586.out 3
 have hfz14_4:=zAA BK586.out 4
 have hfz14_5:=zAA BK586.out 5
 have hfz14_6:=zAA BK586.out 6
 have hfz14_7:=zAA BK586.out 7
 have p589:0≤(a1:Int):=aD_
 have q589:a1<(l0_6.length:Int):=aD_
 obtain ⟨ad589,e589,hx589_0⟩:=Kd.at_int HR0_6.out a1 p589 q589
 cases e589
 replace hx589_0:=(HB.out.cell (World.block_lt_of_cell? w _ hx589_0)).trans hx589_0
 replace p589:=eq_true p589
 replace q589:=eq_true q589
 go_wp2
 go_roundg k1
 case measure=>have:=HK1.out;omega
 case rel=>exact ⟨(wrap64 (x12_1+1)),aS2_,H',⟨by have:=HK1.out;omega⟩,⟨aB_ BK586.out⟩,⟨aI_ HB.out GE586.out⟩⟩
end Go.Proofs.YthbnigjckjkmnaaDoor.S

namespace Go.Proofs.YthbnigjckjkmnaaDoor.S
open Go.RowKit Go.Proofs.YthbnigjckjkmnaaDoorW.PrintWords Go.Proofs.YthbnigjckjkmnaaDoorW.PrintLast Go.Proofs.YthbnigjckjkmnaaDoorW.PrintMore
attribute [local go_sem] max2_int min2_int max_two min_two max_three min_three max_four min_four
def units_node_alike.f (k:Nat) (a0_0:Int) (a0_1:Int) (a0_2:Int) (a0_3:Int) (l0_4:List (S45)) (a0_5:Int) (l0_6:List Int) (l0_7:List Bool):Option (Int):=(zAk.f k a0_0 a0_1 a0_2 a0_3 l0_4 a0_5 l0_6 l0_7 0).bind fun t592=>(some t592)
theorem units_node_alike.mono:∀ a0 a1 a2 a3 a4 a5 a6 a7 k,LeO (units_node_alike.f k a0 a1 a2 a3 a4 a5 a6 a7) (units_node_alike.f (k+1) a0 a1 a2 a3 a4 a5 a6 a7):=by
 intro a0 a1 a2 a3 a4 a5 a6 a7 k
 unfold units_node_alike.f
 repeat' first
   |(with_reducible exact zAk.mono _ _ _ _ _ _ _ _ _ _)
   |(with_reducible exact LeO.refl _)
   |(with_reducible exact LeO.none _)
   |(with_reducible refine LeO.ite ?_ ?_)
   |(with_reducible refine LeO.bind ?_ (fun _=>?_))
   |exact zAk.mono _ _ _ _ _ _ _ _ _ _
   |exact LeO.none _
   |refine LeO.ite ?_ ?_
   |refine LeO.bind ?_ (fun _=>?_)
set_option maxHeartbeats 8000000 in
set_option maxRecDepth 100000 in
theorem units_node_alike.calls (k:Nat) (a0_0:Int) (a0_1:Int) (a0_2:Int) (a0_3:Int) (A0_4:Option Addr) (c0_4:Nat) (l0_4:List (S45)) (a0_5:Int) (A0_6:Option Addr) (c0_6:Nat) (l0_6:List Int) (A0_7:Option Addr) (c0_7:Nat) (l0_7:List Bool) (r:Int) (w:World) (hr0_4:Kd.C k45 w A0_4 l0_4.length l0_4) (hc0_4:l0_4.length≤c0_4) (hr0_6:Kd.C (Kd.int .i64) w A0_6 l0_6.length l0_6) (hc0_6:l0_6.length≤c0_6) (hr0_7:Kd.C Kd.bool w A0_7 l0_7.length l0_7) (hc0_7:l0_7.length≤c0_7) (h:units_node_alike.f k a0_0 a0_1 a0_2 a0_3 l0_4 a0_5 l0_6 l0_7=some r) :
  Calls Tryd.prog 67 #[.agg #[.int .i64 a0_0,.int .i64 a0_1,.int .i64 a0_2,.int .i64 a0_3,.slice A0_4 l0_4.length c0_4,.int .i64 a0_5,.slice A0_6 l0_6.length c0_6,.slice A0_7 l0_7.length c0_7]] w fun e w'=>e = .returned (.int .i64 r)∧Below w.heap.size w w':=by
 have hu75:=Tryd.underlying75
 have HR0_4:=aK_ hr0_4
 have HC0_4:=aK_ hc0_4
 clear hr0_4 hc0_4
 have HR0_6:=aK_ hr0_6
 have HC0_6:=aK_ hc0_6
 clear hr0_6 hc0_6
 have HR0_7:=aK_ hr0_7
 have HC0_7:=aK_ hc0_7
 clear hr0_7 hc0_7
 have HB:=aK_ (Below.refl w.heap.size w)
 have H:((zAk.f k a0_0 a0_1 a0_2 a0_3 l0_4 a0_5 l0_6 l0_7 0).bind fun t592=>(some t592))=some r:=h
 clear h
 replace H:=Option.bind_eq_some_iff.mp H
 obtain ⟨t592,A20,H⟩:=H
 replace H:(some t592)=some r:=H
 have A2:=aK_ A20
 clear A20
 obtain rfl:=Option.some.inj H
 go_enter Tryd.func67,Tryd.ntmps67
 go_wp2_with (first|((with_reducible refine zAZ (N:=1) rfl ?_);refine zAW ?hg (N:=1) ?hd (cs:=#[.int .i64 a0_0,.int .i64 a0_1,.int .i64 a0_2,.int .i64 a0_3,.slice A0_4 l0_4.length c0_4,.int .i64 a0_5,.slice A0_6 l0_6.length c0_6,.slice A0_7 l0_7.length c0_7]) (t:=75) ?hr ?_;(case hd=>rfl);(case hg=>rfl);(case hr=>first|(go_simp;done)|(go_simp;rfl));intro gb591 hg w3 hbox hb;have n0_:=aK_ (zAG (aH_ HB.out) hb);have n1_:=aK_ (hbox);have n2_:=aK_ ((by rw [hg];exact (zAD (aH_ HB.out)):w.heap.size≤gb591));have n3_:=aK_ ((by rw [hg];exact (zAD (aH_ HB.out)):w.heap.size≤gb591));clear HB;have HB:=n0_;have BK591:=n1_;have GW591:=n2_;have GE591:=n3_;clear n0_ n1_ n2_ n3_;clear hb hbox hg;have hcz4_0:w3.cell? ⟨gb591,0,none⟩=some (.int .i64 a0_0):=(zAB BK591.out 0).trans rfl;have hcz4_1:w3.cell? ⟨gb591,1,none⟩=some (.int .i64 a0_1):=(zAB BK591.out 1).trans rfl;have hcz4_2:w3.cell? ⟨gb591,2,none⟩=some (.int .i64 a0_2):=(zAB BK591.out 2).trans rfl;have hcz4_3:w3.cell? ⟨gb591,3,none⟩=some (.int .i64 a0_3):=(zAB BK591.out 3).trans rfl;have hcz4_4:w3.cell? ⟨gb591,4,none⟩=some (.slice A0_4 l0_4.length c0_4):=(zAB BK591.out 4).trans rfl;have hcz4_5:w3.cell? ⟨gb591,5,none⟩=some (.int .i64 a0_5):=(zAB BK591.out 5).trans rfl;have hcz4_6:w3.cell? ⟨gb591,6,none⟩=some (.slice A0_6 l0_6.length c0_6):=(zAB BK591.out 6).trans rfl;have hcz4_7:w3.cell? ⟨gb591,7,none⟩=some (.slice A0_7 l0_7.length c0_7):=(zAB BK591.out 7).trans rfl;have hfz4_0:=zAA BK591.out 0;have hfz4_1:=zAA BK591.out 1;have hfz4_2:=zAA BK591.out 2;have hfz4_3:=zAA BK591.out 3;have hfz4_4:=zAA BK591.out 4;have hfz4_5:=zAA BK591.out 5;have hfz4_6:=zAA BK591.out 6;have hfz4_7:=zAA BK591.out 7)|((with_reducible refine zAc (f:=84) rfl ?_);refine goesL_ (some 4) rfl rfl Tryd.func84 (by kernel_rfl) rfl #[.agg #[.int .i64 a0_0,.int .i64 a0_1,.int .i64 a0_2,.int .i64 a0_3,.slice A0_4 l0_4.length c0_4,.int .i64 a0_5,.slice A0_6 l0_6.length c0_6,.slice A0_7 l0_7.length c0_7],.int .i64 0] rfl aM_ ?_;(with_reducible refine (zAk.calls k a0_0 a0_1 a0_2 a0_3 _ _ l0_4 a0_5 _ _ l0_6 _ _ l0_7 0 t592 _ ?side1 ?side2 ?side3 ?side4 ?side5 ?side6 A2.out).mono ?_);(case side1=>repeat (first|exact (Kd.C_below HR0_4.out HB.out)|(with_reducible refine Kd.C_alloc ?_ _)|(with_reducible refine Kd.C_drewN ?_ _)|(with_reducible refine Kd.C_drew ?_)));(case side2=>exact HC0_4.out);(case side3=>repeat (first|exact (Kd.C_below HR0_6.out HB.out)|(with_reducible refine Kd.C_alloc ?_ _)|(with_reducible refine Kd.C_drewN ?_ _)|(with_reducible refine Kd.C_drew ?_)));(case side4=>exact HC0_6.out);(case side5=>repeat (first|exact (Kd.C_below HR0_7.out HB.out)|(with_reducible refine Kd.C_alloc ?_ _)|(with_reducible refine Kd.C_drewN ?_ _)|(with_reducible refine Kd.C_drew ?_)));(case side6=>exact HC0_7.out);rintro e w5 ⟨rfl,hb⟩;refine ⟨_,rfl,?_⟩;have n0_:=aK_ (zAY (g:=gb591) (o:=.cells #[.int .i64 a0_0,.int .i64 a0_1,.int .i64 a0_2,.int .i64 a0_3,.slice A0_4 l0_4.length c0_4,.int .i64 a0_5,.slice A0_6 l0_6.length c0_6,.slice A0_7 l0_7.length c0_7] 75 (0,0)) (aB_ BK591.out) hb);have n1_:=aK_ (zAG (aI_ HB.out GE591.out) hb);clear BK591;clear HB;have BK591:=n0_;have HB:=n1_;clear n0_ n1_;(try clear hb);(try clear hb2);(try clear hk);(try clear hi)))
 go_ret
 exact ⟨by first|rfl|(simp [zAE,zAF] <;> rfl)|(simp [*,zAE,zAF] <;> rfl),aI_ HB.out GE591.out⟩
end Go.Proofs.YthbnigjckjkmnaaDoor.S

namespace Go.Proofs.YthbnigjckjkmnaaDoor.S
open Go.RowKit Go.Proofs.YthbnigjckjkmnaaDoorW.PrintWords Go.Proofs.YthbnigjckjkmnaaDoorW.PrintLast Go.Proofs.YthbnigjckjkmnaaDoorW.PrintMore
attribute [local go_sem] max2_int min2_int max_two min_two max_three min_three max_four min_four
def units_count.f (a0:Int):Option (Bool):=some (decide (a0≥2))
set_option maxHeartbeats 8000000 in
set_option maxRecDepth 100000 in
theorem units_count.calls (a0:Int) (r:Bool) (w:World) (h:units_count.f a0=some r) :
  Calls Tryd.prog 85 #[.int .i64 a0] w fun e w'=>e = .returned (.bool r)∧zAi w w':=by
 have H:(some (decide (a0≥2)))=some r:=h
 clear h
 obtain rfl:=Option.some.inj H
 go_enter Tryd.func85,Tryd.ntmps85
 go_wp2
 go_ret
 exact ⟨by first|rfl|(simp;done)|(simp [*];done),by repeat (first|exact zAi.refl _|apply zAi.step)⟩
end Go.Proofs.YthbnigjckjkmnaaDoor.S
