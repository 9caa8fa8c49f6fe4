/- What the proof needs, part 7 of 19. Types of every raw plan: the answer is the reference's, with places and errors. For every plan that the card lets in. -/
import Derived.Test.YthbnigjckjkmnaaDoorBUnitsTypes5
import Derived.Test.YthbnigjckjkmnaaDoorBUnitsTypes6
set_option linter.unusedVariables false
set_option linter.unusedSimpArgs false
namespace Go.Proofs.YthbnigjckjkmnaaDoor.S
open Go.RowKit Go.Proofs.YthbnigjckjkmnaaDoorW.PrintWords Go.Proofs.YthbnigjckjkmnaaDoorW.PrintLast Go.Proofs.YthbnigjckjkmnaaDoorW.PrintMore
attribute [local go_sem] max2_int min2_int max_two min_two max_three min_three max_four min_four
def zAg.j0:Nat→Int→Int→Bool→Option (Int)
 |0,_,_,_=>none
 |k+1,x3,x4,x21=>if x21=true then (some 1) else ((units_count.f x4).bind fun t597=>(if t597=true then (if x3=1 then (some 1) else (some (-1))) else (some (-1))))
def zAg.f (k:Nat) (a0_0:Int) (a0_1:Int) (a0_2:Int) (a0_3:Int) (l0_4:List (S45)) (a0_5:Int) (l0_6:List Int) (l0_7:List Bool):Option (Int):=if 0<(l0_6.length:Int) then (if 1<(l0_6.length:Int) then (if (rd l0_6 0)=0 then (some (rd l0_6 1)) else (if (rd l0_6 1)=0 then (some (rd l0_6 0)) else ((units_count.f (rd l0_6 0)).bind fun t596=>(if t596=true then (zAg.j0 k (rd l0_6 0) (rd l0_6 1) ((rd l0_6 1) == 1)) else (zAg.j0 k (rd l0_6 0) (rd l0_6 1) false))))) else (none)) else (none)
theorem zAg.mono_l:∀ k,(∀ y0 y1 y2,LeO (zAg.j0 k y0 y1 y2) (zAg.j0 (k+1) y0 y1 y2))
 |0=>fun _ _ _ r h=>by simp [zAg.j0] at h
 |k+1=>by
  have ih0:=zAg.mono_l k
  ·intro y0 y1 y2
   unfold zAg.j0
   repeat' first
   |(with_reducible exact ih0 _ _ _)
   |(with_reducible exact LeO.refl _)
   |(with_reducible exact LeO.none _)
   |(with_reducible refine LeO.ite ?_ ?_)
   |(with_reducible refine LeO.bind ?_ (fun _=>?_))
   |exact ih0 _ _ _
   |exact LeO.none _
   |refine LeO.ite ?_ ?_
   |refine LeO.bind ?_ (fun _=>?_)
theorem zAg.mono:∀ a0 a1 a2 a3 a4 a5 a6 a7 k,LeO (zAg.f k a0 a1 a2 a3 a4 a5 a6 a7) (zAg.f (k+1) a0 a1 a2 a3 a4 a5 a6 a7):=by
 intro a0 a1 a2 a3 a4 a5 a6 a7 k
 have ih0:=zAg.mono_l k
 unfold zAg.f
 repeat' first
   |(with_reducible exact ih0 _ _ _)
   |(with_reducible exact LeO.refl _)
   |(with_reducible exact LeO.none _)
   |(with_reducible refine LeO.ite ?_ ?_)
   |(with_reducible refine LeO.bind ?_ (fun _=>?_))
   |exact ih0 _ _ _
   |exact LeO.none _
   |refine LeO.ite ?_ ?_
   |refine LeO.bind ?_ (fun _=>?_)
set_option maxHeartbeats 8000000 in
set_option maxRecDepth 100000 in
theorem zAg.calls (k:Nat) (a0_0:Int) (a0_1:Int) (a0_2:Int) (a0_3:Int) (A0_4:Option Addr) (c0_4:Nat) (l0_4:List (S45)) (a0_5:Int) (A0_6:Option Addr) (c0_6:Nat) (l0_6:List Int) (A0_7:Option Addr) (c0_7:Nat) (l0_7:List Bool) (r:Int) (w:World) (hr0_4:Kd.C k45 w A0_4 l0_4.length l0_4) (hc0_4:l0_4.length≤c0_4) (hr0_6:Kd.C (Kd.int .i64) w A0_6 l0_6.length l0_6) (hc0_6:l0_6.length≤c0_6) (hr0_7:Kd.C Kd.bool w A0_7 l0_7.length l0_7) (hc0_7:l0_7.length≤c0_7) (h:zAg.f k a0_0 a0_1 a0_2 a0_3 l0_4 a0_5 l0_6 l0_7=some r) :
  Calls Tryd.prog 68 #[.agg #[.int .i64 a0_0,.int .i64 a0_1,.int .i64 a0_2,.int .i64 a0_3,.slice A0_4 l0_4.length c0_4,.int .i64 a0_5,.slice A0_6 l0_6.length c0_6,.slice A0_7 l0_7.length c0_7]] w fun e w'=>e = .returned (.int .i64 r)∧Below w.heap.size w w':=by
 have hu75:=Tryd.underlying75
 have HR0_4:=aK_ hr0_4
 have HC0_4:=aK_ hc0_4
 clear hr0_4 hc0_4
 have HR0_6:=aK_ hr0_6
 have HC0_6:=aK_ hc0_6
 clear hr0_6 hc0_6
 have HR0_7:=aK_ hr0_7
 have HC0_7:=aK_ hc0_7
 clear hr0_7 hc0_7
 have HB:=aK_ (Below.refl w.heap.size w)
 have H:(if 0<(l0_6.length:Int) then (if 1<(l0_6.length:Int) then (if (rd l0_6 0)=0 then (some (rd l0_6 1)) else (if (rd l0_6 1)=0 then (some (rd l0_6 0)) else ((units_count.f (rd l0_6 0)).bind fun t596=>(if t596=true then (zAg.j0 k (rd l0_6 0) (rd l0_6 1) ((rd l0_6 1) == 1)) else (zAg.j0 k (rd l0_6 0) (rd l0_6 1) false))))) else (none)) else (none))=some r:=h
 clear h
 by_cases c2:0<(l0_6.length:Int)
 rotate_left
 ·rw [if_neg c2] at H
  exact absurd H (by simp)
 rw [if_pos c2] at H
 have c2b0:decide (0<(l0_6.length:Int))=true:=decide_eq_true c2
 have c2b1:decide (0<l0_6.length)=true:=decide_eq_true (by omega)
 clear c2
 have c3:=yes_ H
 rw [if_pos c3] at H
 have c3b0:decide (1<(l0_6.length:Int))=true:=decide_eq_true c3
 have c3b1:decide (1<l0_6.length)=true:=decide_eq_true (by omega)
 clear c3
 by_cases c4:(rd l0_6 0)=0
 ·rw [if_pos c4] at H
  have c4b0:((rd l0_6 0) == 0)=true:=beq_iff_eq.mpr c4
  have c4b1:((rd l0_6 0) != 0)=false:=bne_eq_false_iff_eq.mpr c4
  clear c4
  obtain rfl:=Option.some.inj H
  go_enter Tryd.func68,Tryd.ntmps68
  go_wp2_with (first|((with_reducible refine zAZ (N:=1) rfl ?_);refine zAW ?hg (N:=1) ?hd (cs:=#[.int .i64 a0_0,.int .i64 a0_1,.int .i64 a0_2,.int .i64 a0_3,.slice A0_4 l0_4.length c0_4,.int .i64 a0_5,.slice A0_6 l0_6.length c0_6,.slice A0_7 l0_7.length c0_7]) (t:=75) ?hr ?_;(case hd=>rfl);(case hg=>rfl);(case hr=>first|(go_simp;done)|(go_simp;rfl));intro gb593 hg w5 hbox hb;have n0_:=aK_ (zAG (aH_ HB.out) hb);have n1_:=aK_ (hbox);have n2_:=aK_ ((by rw [hg];exact (zAD (aH_ HB.out)):w.heap.size≤gb593));have n3_:=aK_ ((by rw [hg];exact (zAD (aH_ HB.out)):w.heap.size≤gb593));clear HB;have HB:=n0_;have BK593:=n1_;have GW593:=n2_;have GE593:=n3_;clear n0_ n1_ n2_ n3_;clear hb hbox hg;have hcz6_0:w5.cell? ⟨gb593,0,none⟩=some (.int .i64 a0_0):=(zAB BK593.out 0).trans rfl;have hcz6_1:w5.cell? ⟨gb593,1,none⟩=some (.int .i64 a0_1):=(zAB BK593.out 1).trans rfl;have hcz6_2:w5.cell? ⟨gb593,2,none⟩=some (.int .i64 a0_2):=(zAB BK593.out 2).trans rfl;have hcz6_3:w5.cell? ⟨gb593,3,none⟩=some (.int .i64 a0_3):=(zAB BK593.out 3).trans rfl;have hcz6_4:w5.cell? ⟨gb593,4,none⟩=some (.slice A0_4 l0_4.length c0_4):=(zAB BK593.out 4).trans rfl;have hcz6_5:w5.cell? ⟨gb593,5,none⟩=some (.int .i64 a0_5):=(zAB BK593.out 5).trans rfl;have hcz6_6:w5.cell? ⟨gb593,6,none⟩=some (.slice A0_6 l0_6.length c0_6):=(zAB BK593.out 6).trans rfl;have hcz6_7:w5.cell? ⟨gb593,7,none⟩=some (.slice A0_7 l0_7.length c0_7):=(zAB BK593.out 7).trans rfl;have hfz6_0:=zAA BK593.out 0;have hfz6_1:=zAA BK593.out 1;have hfz6_2:=zAA BK593.out 2;have hfz6_3:=zAA BK593.out 3;have hfz6_4:=zAA BK593.out 4;have hfz6_5:=zAA BK593.out 5;have hfz6_6:=zAA BK593.out 6;have hfz6_7:=zAA BK593.out 7;have p594:0≤(0:Int):=(by omega);have q594:0<(l0_6.length:Int):=aD_;obtain ⟨ad594,e594,hx594_0⟩:=Kd.at_int HR0_6.out 0 p594 q594;cases e594;have qi594:(0<l0_6.length)=True:=eq_true (by omega);(try rw [show ((0:Int)).toNat=0 from rfl] at hx594_0);(try rw [Addr.add_zero'] at hx594_0);replace hx594_0:=(HB.out.cell (World.block_lt_of_cell? w _ hx594_0)).trans hx594_0;replace p594:=eq_true p594;replace q594:=eq_true q594;have p595:0≤(1:Int):=(by omega);have q595:1<(l0_6.length:Int):=aD_;obtain ⟨ad595,e595,hx595_0⟩:=Kd.at_int HR0_6.out 1 p595 q595;obtain rfl:ad594=ad595:=(by injection e595);(try simp only [show (1:Int).toNat=1 from rfl,Nat.reduceMul,Nat.reduceEqDiff,Go.Addr.add,↓reduceIte] at hx595_0);have qi595:(1<l0_6.length)=True:=eq_true (by omega);(try rw [show ((1:Int)).toNat=1 from rfl] at hx595_0);replace hx595_0:=(HB.out.cell (World.block_lt_of_cell? w _ hx595_0)).trans hx595_0;replace p595:=eq_true p595;replace q595:=eq_true q595))
  repeat (go_quiet (first|((with_reducible refine zAZ (N:=1) rfl ?_);refine zAW ?hg (N:=1) ?hd (cs:=#[.int .i64 a0_0,.int .i64 a0_1,.int .i64 a0_2,.int .i64 a0_3,.slice A0_4 l0_4.length c0_4,.int .i64 a0_5,.slice A0_6 l0_6.length c0_6,.slice A0_7 l0_7.length c0_7]) (t:=75) ?hr ?_;(case hd=>rfl);(case hg=>rfl);(case hr=>first|(go_simp;done)|(go_simp;rfl));intro gb593 hg w5 hbox hb;have n0_:=aK_ (zAG (aH_ HB.out) hb);have n1_:=aK_ (hbox);have n2_:=aK_ ((by rw [hg];exact (zAD (aH_ HB.out)):w.heap.size≤gb593));have n3_:=aK_ ((by rw [hg];exact (zAD (aH_ HB.out)):w.heap.size≤gb593));clear HB;have HB:=n0_;have BK593:=n1_;have GW593:=n2_;have GE593:=n3_;clear n0_ n1_ n2_ n3_;clear hb hbox hg;have hcz6_0:w5.cell? ⟨gb593,0,none⟩=some (.int .i64 a0_0):=(zAB BK593.out 0).trans rfl;have hcz6_1:w5.cell? ⟨gb593,1,none⟩=some (.int .i64 a0_1):=(zAB BK593.out 1).trans rfl;have hcz6_2:w5.cell? ⟨gb593,2,none⟩=some (.int .i64 a0_2):=(zAB BK593.out 2).trans rfl;have hcz6_3:w5.cell? ⟨gb593,3,none⟩=some (.int .i64 a0_3):=(zAB BK593.out 3).trans rfl;have hcz6_4:w5.cell? ⟨gb593,4,none⟩=some (.slice A0_4 l0_4.length c0_4):=(zAB BK593.out 4).trans rfl;have hcz6_5:w5.cell? ⟨gb593,5,none⟩=some (.int .i64 a0_5):=(zAB BK593.out 5).trans rfl;have hcz6_6:w5.cell? ⟨gb593,6,none⟩=some (.slice A0_6 l0_6.length c0_6):=(zAB BK593.out 6).trans rfl;have hcz6_7:w5.cell? ⟨gb593,7,none⟩=some (.slice A0_7 l0_7.length c0_7):=(zAB BK593.out 7).trans rfl;have hfz6_0:=zAA BK593.out 0;have hfz6_1:=zAA BK593.out 1;have hfz6_2:=zAA BK593.out 2;have hfz6_3:=zAA BK593.out 3;have hfz6_4:=zAA BK593.out 4;have hfz6_5:=zAA BK593.out 5;have hfz6_6:=zAA BK593.out 6;have hfz6_7:=zAA BK593.out 7;have p594:0≤(0:Int):=(by omega);have q594:0<(l0_6.length:Int):=aD_;obtain ⟨ad594,e594,hx594_0⟩:=Kd.at_int HR0_6.out 0 p594 q594;cases e594;have qi594:(0<l0_6.length)=True:=eq_true (by omega);(try rw [show ((0:Int)).toNat=0 from rfl] at hx594_0);(try rw [Addr.add_zero'] at hx594_0);replace hx594_0:=(HB.out.cell (World.block_lt_of_cell? w _ hx594_0)).trans hx594_0;replace p594:=eq_true p594;replace q594:=eq_true q594;have p595:0≤(1:Int):=(by omega);have q595:1<(l0_6.length:Int):=aD_;obtain ⟨ad595,e595,hx595_0⟩:=Kd.at_int HR0_6.out 1 p595 q595;obtain rfl:ad594=ad595:=(by injection e595);(try simp only [show (1:Int).toNat=1 from rfl,Nat.reduceMul,Nat.reduceEqDiff,Go.Addr.add,↓reduceIte] at hx595_0);have qi595:(1<l0_6.length)=True:=eq_true (by omega);(try rw [show ((1:Int)).toNat=1 from rfl] at hx595_0);replace hx595_0:=(HB.out.cell (World.block_lt_of_cell? w _ hx595_0)).trans hx595_0;replace p595:=eq_true p595;replace q595:=eq_true q595));try go_wp2_with (first|((with_reducible refine zAZ (N:=1) rfl ?_);refine zAW ?hg (N:=1) ?hd (cs:=#[.int .i64 a0_0,.int .i64 a0_1,.int .i64 a0_2,.int .i64 a0_3,.slice A0_4 l0_4.length c0_4,.int .i64 a0_5,.slice A0_6 l0_6.length c0_6,.slice A0_7 l0_7.length c0_7]) (t:=75) ?hr ?_;(case hd=>rfl);(case hg=>rfl);(case hr=>first|(go_simp;done)|(go_simp;rfl));intro gb593 hg w5 hbox hb;have n0_:=aK_ (zAG (aH_ HB.out) hb);have n1_:=aK_ (hbox);have n2_:=aK_ ((by rw [hg];exact (zAD (aH_ HB.out)):w.heap.size≤gb593));have n3_:=aK_ ((by rw [hg];exact (zAD (aH_ HB.out)):w.heap.size≤gb593));clear HB;have HB:=n0_;have BK593:=n1_;have GW593:=n2_;have GE593:=n3_;clear n0_ n1_ n2_ n3_;clear hb hbox hg;have hcz6_0:w5.cell? ⟨gb593,0,none⟩=some (.int .i64 a0_0):=(zAB BK593.out 0).trans rfl;have hcz6_1:w5.cell? ⟨gb593,1,none⟩=some (.int .i64 a0_1):=(zAB BK593.out 1).trans rfl;have hcz6_2:w5.cell? ⟨gb593,2,none⟩=some (.int .i64 a0_2):=(zAB BK593.out 2).trans rfl;have hcz6_3:w5.cell? ⟨gb593,3,none⟩=some (.int .i64 a0_3):=(zAB BK593.out 3).trans rfl;have hcz6_4:w5.cell? ⟨gb593,4,none⟩=some (.slice A0_4 l0_4.length c0_4):=(zAB BK593.out 4).trans rfl;have hcz6_5:w5.cell? ⟨gb593,5,none⟩=some (.int .i64 a0_5):=(zAB BK593.out 5).trans rfl;have hcz6_6:w5.cell? ⟨gb593,6,none⟩=some (.slice A0_6 l0_6.length c0_6):=(zAB BK593.out 6).trans rfl;have hcz6_7:w5.cell? ⟨gb593,7,none⟩=some (.slice A0_7 l0_7.length c0_7):=(zAB BK593.out 7).trans rfl;have hfz6_0:=zAA BK593.out 0;have hfz6_1:=zAA BK593.out 1;have hfz6_2:=zAA BK593.out 2;have hfz6_3:=zAA BK593.out 3;have hfz6_4:=zAA BK593.out 4;have hfz6_5:=zAA BK593.out 5;have hfz6_6:=zAA BK593.out 6;have hfz6_7:=zAA BK593.out 7;have p594:0≤(0:Int):=(by omega);have q594:0<(l0_6.length:Int):=aD_;obtain ⟨ad594,e594,hx594_0⟩:=Kd.at_int HR0_6.out 0 p594 q594;cases e594;have qi594:(0<l0_6.length)=True:=eq_true (by omega);(try rw [show ((0:Int)).toNat=0 from rfl] at hx594_0);(try rw [Addr.add_zero'] at hx594_0);replace hx594_0:=(HB.out.cell (World.block_lt_of_cell? w _ hx594_0)).trans hx594_0;replace p594:=eq_true p594;replace q594:=eq_true q594;have p595:0≤(1:Int):=(by omega);have q595:1<(l0_6.length:Int):=aD_;obtain ⟨ad595,e595,hx595_0⟩:=Kd.at_int HR0_6.out 1 p595 q595;obtain rfl:ad594=ad595:=(by injection e595);(try simp only [show (1:Int).toNat=1 from rfl,Nat.reduceMul,Nat.reduceEqDiff,Go.Addr.add,↓reduceIte] at hx595_0);have qi595:(1<l0_6.length)=True:=eq_true (by omega);(try rw [show ((1:Int)).toNat=1 from rfl] at hx595_0);replace hx595_0:=(HB.out.cell (World.block_lt_of_cell? w _ hx595_0)).trans hx595_0;replace p595:=eq_true p595;replace q595:=eq_true q595)))
  go_ret
  exact ⟨by first|rfl|(simp [zAE,zAF] <;> rfl)|(simp [*,zAE,zAF] <;> rfl),aI_ HB.out GE593.out⟩
 rw [if_neg c4] at H
 have c4b0:((rd l0_6 0) == 0)=false:=beq_eq_false_iff_ne.mpr c4
 have c4b1:((rd l0_6 0) != 0)=true:=bne_iff_ne.mpr c4
 by_cases c7:(rd l0_6 1)=0
 ·rw [if_pos c7] at H
  have c7b0:((rd l0_6 1) == 0)=true:=beq_iff_eq.mpr c7
  have c7b1:((rd l0_6 1) != 0)=false:=bne_eq_false_iff_eq.mpr c7
  clear c7
  obtain rfl:=Option.some.inj H
  go_enter Tryd.func68,Tryd.ntmps68
  go_wp2_with (first|((with_reducible refine zAZ (N:=1) rfl ?_);refine zAW ?hg (N:=1) ?hd (cs:=#[.int .i64 a0_0,.int .i64 a0_1,.int .i64 a0_2,.int .i64 a0_3,.slice A0_4 l0_4.length c0_4,.int .i64 a0_5,.slice A0_6 l0_6.length c0_6,.slice A0_7 l0_7.length c0_7]) (t:=75) ?hr ?_;(case hd=>rfl);(case hg=>rfl);(case hr=>first|(go_simp;done)|(go_simp;rfl));intro gb593 hg w8 hbox hb;have n0_:=aK_ (zAG (aH_ HB.out) hb);have n1_:=aK_ (hbox);have n2_:=aK_ ((by rw [hg];exact (zAD (aH_ HB.out)):w.heap.size≤gb593));have n3_:=aK_ ((by rw [hg];exact (zAD (aH_ HB.out)):w.heap.size≤gb593));clear HB;have HB:=n0_;have BK593:=n1_;have GW593:=n2_;have GE593:=n3_;clear n0_ n1_ n2_ n3_;clear hb hbox hg;have hcz9_0:w8.cell? ⟨gb593,0,none⟩=some (.int .i64 a0_0):=(zAB BK593.out 0).trans rfl;have hcz9_1:w8.cell? ⟨gb593,1,none⟩=some (.int .i64 a0_1):=(zAB BK593.out 1).trans rfl;have hcz9_2:w8.cell? ⟨gb593,2,none⟩=some (.int .i64 a0_2):=(zAB BK593.out 2).trans rfl;have hcz9_3:w8.cell? ⟨gb593,3,none⟩=some (.int .i64 a0_3):=(zAB BK593.out 3).trans rfl;have hcz9_4:w8.cell? ⟨gb593,4,none⟩=some (.slice A0_4 l0_4.length c0_4):=(zAB BK593.out 4).trans rfl;have hcz9_5:w8.cell? ⟨gb593,5,none⟩=some (.int .i64 a0_5):=(zAB BK593.out 5).trans rfl;have hcz9_6:w8.cell? ⟨gb593,6,none⟩=some (.slice A0_6 l0_6.length c0_6):=(zAB BK593.out 6).trans rfl;have hcz9_7:w8.cell? ⟨gb593,7,none⟩=some (.slice A0_7 l0_7.length c0_7):=(zAB BK593.out 7).trans rfl;have hfz9_0:=zAA BK593.out 0;have hfz9_1:=zAA BK593.out 1;have hfz9_2:=zAA BK593.out 2;have hfz9_3:=zAA BK593.out 3;have hfz9_4:=zAA BK593.out 4;have hfz9_5:=zAA BK593.out 5;have hfz9_6:=zAA BK593.out 6;have hfz9_7:=zAA BK593.out 7;have p594:0≤(0:Int):=(by omega);have q594:0<(l0_6.length:Int):=aD_;obtain ⟨ad594,e594,hx594_0⟩:=Kd.at_int HR0_6.out 0 p594 q594;cases e594;have qi594:(0<l0_6.length)=True:=eq_true (by omega);(try rw [show ((0:Int)).toNat=0 from rfl] at hx594_0);(try rw [Addr.add_zero'] at hx594_0);replace hx594_0:=(HB.out.cell (World.block_lt_of_cell? w _ hx594_0)).trans hx594_0;replace p594:=eq_true p594;replace q594:=eq_true q594;have p595:0≤(1:Int):=(by omega);have q595:1<(l0_6.length:Int):=aD_;obtain ⟨ad595,e595,hx595_0⟩:=Kd.at_int HR0_6.out 1 p595 q595;obtain rfl:ad594=ad595:=(by injection e595);(try simp only [show (1:Int).toNat=1 from rfl,Nat.reduceMul,Nat.reduceEqDiff,Go.Addr.add,↓reduceIte] at hx595_0);have qi595:(1<l0_6.length)=True:=eq_true (by omega);(try rw [show ((1:Int)).toNat=1 from rfl] at hx595_0);replace hx595_0:=(HB.out.cell (World.block_lt_of_cell? w _ hx595_0)).trans hx595_0;replace p595:=eq_true p595;replace q595:=eq_true q595))
  repeat (go_quiet (first|((with_reducible refine zAZ (N:=1) rfl ?_);refine zAW ?hg (N:=1) ?hd (cs:=#[.int .i64 a0_0,.int .i64 a0_1,.int .i64 a0_2,.int .i64 a0_3,.slice A0_4 l0_4.length c0_4,.int .i64 a0_5,.slice A0_6 l0_6.length c0_6,.slice A0_7 l0_7.length c0_7]) (t:=75) ?hr ?_;(case hd=>rfl);(case hg=>rfl);(case hr=>first|(go_simp;done)|(go_simp;rfl));intro gb593 hg w8 hbox hb;have n0_:=aK_ (zAG (aH_ HB.out) hb);have n1_:=aK_ (hbox);have n2_:=aK_ ((by rw [hg];exact (zAD (aH_ HB.out)):w.heap.size≤gb593));have n3_:=aK_ ((by rw [hg];exact (zAD (aH_ HB.out)):w.heap.size≤gb593));clear HB;have HB:=n0_;have BK593:=n1_;have GW593:=n2_;have GE593:=n3_;clear n0_ n1_ n2_ n3_;clear hb hbox hg;have hcz9_0:w8.cell? ⟨gb593,0,none⟩=some (.int .i64 a0_0):=(zAB BK593.out 0).trans rfl;have hcz9_1:w8.cell? ⟨gb593,1,none⟩=some (.int .i64 a0_1):=(zAB BK593.out 1).trans rfl;have hcz9_2:w8.cell? ⟨gb593,2,none⟩=some (.int .i64 a0_2):=(zAB BK593.out 2).trans rfl;have hcz9_3:w8.cell? ⟨gb593,3,none⟩=some (.int .i64 a0_3):=(zAB BK593.out 3).trans rfl;have hcz9_4:w8.cell? ⟨gb593,4,none⟩=some (.slice A0_4 l0_4.length c0_4):=(zAB BK593.out 4).trans rfl;have hcz9_5:w8.cell? ⟨gb593,5,none⟩=some (.int .i64 a0_5):=(zAB BK593.out 5).trans rfl;have hcz9_6:w8.cell? ⟨gb593,6,none⟩=some (.slice A0_6 l0_6.length c0_6):=(zAB BK593.out 6).trans rfl;have hcz9_7:w8.cell? ⟨gb593,7,none⟩=some (.slice A0_7 l0_7.length c0_7):=(zAB BK593.out 7).trans rfl;have hfz9_0:=zAA BK593.out 0;have hfz9_1:=zAA BK593.out 1;have hfz9_2:=zAA BK593.out 2;have hfz9_3:=zAA BK593.out 3;have hfz9_4:=zAA BK593.out 4;have hfz9_5:=zAA BK593.out 5;have hfz9_6:=zAA BK593.out 6;have hfz9_7:=zAA BK593.out 7;have p594:0≤(0:Int):=(by omega);have q594:0<(l0_6.length:Int):=aD_;obtain ⟨ad594,e594,hx594_0⟩:=Kd.at_int HR0_6.out 0 p594 q594;cases e594;have qi594:(0<l0_6.length)=True:=eq_true (by omega);(try rw [show ((0:Int)).toNat=0 from rfl] at hx594_0);(try rw [Addr.add_zero'] at hx594_0);replace hx594_0:=(HB.out.cell (World.block_lt_of_cell? w _ hx594_0)).trans hx594_0;replace p594:=eq_true p594;replace q594:=eq_true q594;have p595:0≤(1:Int):=(by omega);have q595:1<(l0_6.length:Int):=aD_;obtain ⟨ad595,e595,hx595_0⟩:=Kd.at_int HR0_6.out 1 p595 q595;obtain rfl:ad594=ad595:=(by injection e595);(try simp only [show (1:Int).toNat=1 from rfl,Nat.reduceMul,Nat.reduceEqDiff,Go.Addr.add,↓reduceIte] at hx595_0);have qi595:(1<l0_6.length)=True:=eq_true (by omega);(try rw [show ((1:Int)).toNat=1 from rfl] at hx595_0);replace hx595_0:=(HB.out.cell (World.block_lt_of_cell? w _ hx595_0)).trans hx595_0;replace p595:=eq_true p595;replace q595:=eq_true q595));try go_wp2_with (first|((with_reducible refine zAZ (N:=1) rfl ?_);refine zAW ?hg (N:=1) ?hd (cs:=#[.int .i64 a0_0,.int .i64 a0_1,.int .i64 a0_2,.int .i64 a0_3,.slice A0_4 l0_4.length c0_4,.int .i64 a0_5,.slice A0_6 l0_6.length c0_6,.slice A0_7 l0_7.length c0_7]) (t:=75) ?hr ?_;(case hd=>rfl);(case hg=>rfl);(case hr=>first|(go_simp;done)|(go_simp;rfl));intro gb593 hg w8 hbox hb;have n0_:=aK_ (zAG (aH_ HB.out) hb);have n1_:=aK_ (hbox);have n2_:=aK_ ((by rw [hg];exact (zAD (aH_ HB.out)):w.heap.size≤gb593));have n3_:=aK_ ((by rw [hg];exact (zAD (aH_ HB.out)):w.heap.size≤gb593));clear HB;have HB:=n0_;have BK593:=n1_;have GW593:=n2_;have GE593:=n3_;clear n0_ n1_ n2_ n3_;clear hb hbox hg;have hcz9_0:w8.cell? ⟨gb593,0,none⟩=some (.int .i64 a0_0):=(zAB BK593.out 0).trans rfl;have hcz9_1:w8.cell? ⟨gb593,1,none⟩=some (.int .i64 a0_1):=(zAB BK593.out 1).trans rfl;have hcz9_2:w8.cell? ⟨gb593,2,none⟩=some (.int .i64 a0_2):=(zAB BK593.out 2).trans rfl;have hcz9_3:w8.cell? ⟨gb593,3,none⟩=some (.int .i64 a0_3):=(zAB BK593.out 3).trans rfl;have hcz9_4:w8.cell? ⟨gb593,4,none⟩=some (.slice A0_4 l0_4.length c0_4):=(zAB BK593.out 4).trans rfl;have hcz9_5:w8.cell? ⟨gb593,5,none⟩=some (.int .i64 a0_5):=(zAB BK593.out 5).trans rfl;have hcz9_6:w8.cell? ⟨gb593,6,none⟩=some (.slice A0_6 l0_6.length c0_6):=(zAB BK593.out 6).trans rfl;have hcz9_7:w8.cell? ⟨gb593,7,none⟩=some (.slice A0_7 l0_7.length c0_7):=(zAB BK593.out 7).trans rfl;have hfz9_0:=zAA BK593.out 0;have hfz9_1:=zAA BK593.out 1;have hfz9_2:=zAA BK593.out 2;have hfz9_3:=zAA BK593.out 3;have hfz9_4:=zAA BK593.out 4;have hfz9_5:=zAA BK593.out 5;have hfz9_6:=zAA BK593.out 6;have hfz9_7:=zAA BK593.out 7;have p594:0≤(0:Int):=(by omega);have q594:0<(l0_6.length:Int):=aD_;obtain ⟨ad594,e594,hx594_0⟩:=Kd.at_int HR0_6.out 0 p594 q594;cases e594;have qi594:(0<l0_6.length)=True:=eq_true (by omega);(try rw [show ((0:Int)).toNat=0 from rfl] at hx594_0);(try rw [Addr.add_zero'] at hx594_0);replace hx594_0:=(HB.out.cell (World.block_lt_of_cell? w _ hx594_0)).trans hx594_0;replace p594:=eq_true p594;replace q594:=eq_true q594;have p595:0≤(1:Int):=(by omega);have q595:1<(l0_6.length:Int):=aD_;obtain ⟨ad595,e595,hx595_0⟩:=Kd.at_int HR0_6.out 1 p595 q595;obtain rfl:ad594=ad595:=(by injection e595);(try simp only [show (1:Int).toNat=1 from rfl,Nat.reduceMul,Nat.reduceEqDiff,Go.Addr.add,↓reduceIte] at hx595_0);have qi595:(1<l0_6.length)=True:=eq_true (by omega);(try rw [show ((1:Int)).toNat=1 from rfl] at hx595_0);replace hx595_0:=(HB.out.cell (World.block_lt_of_cell? w _ hx595_0)).trans hx595_0;replace p595:=eq_true p595;replace q595:=eq_true q595)))
  go_ret
  exact ⟨by first|rfl|(simp [zAE,zAF] <;> rfl)|(simp [*,zAE,zAF] <;> rfl),aI_ HB.out GE593.out⟩
 rw [if_neg c7] at H
 have c7b0:((rd l0_6 1) == 0)=false:=beq_eq_false_iff_ne.mpr c7
 have c7b1:((rd l0_6 1) != 0)=true:=bne_iff_ne.mpr c7
 have HC10:=aK_ H
 clear H
 go_enter Tryd.func68,Tryd.ntmps68
 go_upto_region 6 with (first|((with_reducible refine zAZ (N:=1) rfl ?_);refine zAW ?hg (N:=1) ?hd (cs:=#[.int .i64 a0_0,.int .i64 a0_1,.int .i64 a0_2,.int .i64 a0_3,.slice A0_4 l0_4.length c0_4,.int .i64 a0_5,.slice A0_6 l0_6.length c0_6,.slice A0_7 l0_7.length c0_7]) (t:=75) ?hr ?_;(case hd=>rfl);(case hg=>rfl);(case hr=>first|(go_simp;done)|(go_simp;rfl));intro gb593 hg w11 hbox hb;have n0_:=aK_ (zAG (aH_ HB.out) hb);have n1_:=aK_ (hbox);have n2_:=aK_ ((by rw [hg];exact (zAD (aH_ HB.out)):w.heap.size≤gb593));have n3_:=aK_ ((by rw [hg];exact (zAD (aH_ HB.out)):w.heap.size≤gb593));clear HB;have HB:=n0_;have BK593:=n1_;have GW593:=n2_;have GE593:=n3_;clear n0_ n1_ n2_ n3_;clear hb hbox hg;have hcz12_0:w11.cell? ⟨gb593,0,none⟩=some (.int .i64 a0_0):=(zAB BK593.out 0).trans rfl;have hcz12_1:w11.cell? ⟨gb593,1,none⟩=some (.int .i64 a0_1):=(zAB BK593.out 1).trans rfl;have hcz12_2:w11.cell? ⟨gb593,2,none⟩=some (.int .i64 a0_2):=(zAB BK593.out 2).trans rfl;have hcz12_3:w11.cell? ⟨gb593,3,none⟩=some (.int .i64 a0_3):=(zAB BK593.out 3).trans rfl;have hcz12_4:w11.cell? ⟨gb593,4,none⟩=some (.slice A0_4 l0_4.length c0_4):=(zAB BK593.out 4).trans rfl;have hcz12_5:w11.cell? ⟨gb593,5,none⟩=some (.int .i64 a0_5):=(zAB BK593.out 5).trans rfl;have hcz12_6:w11.cell? ⟨gb593,6,none⟩=some (.slice A0_6 l0_6.length c0_6):=(zAB BK593.out 6).trans rfl;have hcz12_7:w11.cell? ⟨gb593,7,none⟩=some (.slice A0_7 l0_7.length c0_7):=(zAB BK593.out 7).trans rfl;have hfz12_0:=zAA BK593.out 0;have hfz12_1:=zAA BK593.out 1;have hfz12_2:=zAA BK593.out 2;have hfz12_3:=zAA BK593.out 3;have hfz12_4:=zAA BK593.out 4;have hfz12_5:=zAA BK593.out 5;have hfz12_6:=zAA BK593.out 6;have hfz12_7:=zAA BK593.out 7;have p594:0≤(0:Int):=(by omega);have q594:0<(l0_6.length:Int):=aD_;obtain ⟨ad594,e594,hx594_0⟩:=Kd.at_int HR0_6.out 0 p594 q594;cases e594;have qi594:(0<l0_6.length)=True:=eq_true (by omega);(try rw [show ((0:Int)).toNat=0 from rfl] at hx594_0);(try rw [Addr.add_zero'] at hx594_0);replace hx594_0:=(HB.out.cell (World.block_lt_of_cell? w _ hx594_0)).trans hx594_0;replace p594:=eq_true p594;replace q594:=eq_true q594;have p595:0≤(1:Int):=(by omega);have q595:1<(l0_6.length:Int):=aD_;obtain ⟨ad595,e595,hx595_0⟩:=Kd.at_int HR0_6.out 1 p595 q595;obtain rfl:ad594=ad595:=(by injection e595);(try simp only [show (1:Int).toNat=1 from rfl,Nat.reduceMul,Nat.reduceEqDiff,Go.Addr.add,↓reduceIte] at hx595_0);have qi595:(1<l0_6.length)=True:=eq_true (by omega);(try rw [show ((1:Int)).toNat=1 from rfl] at hx595_0);replace hx595_0:=(HB.out.cell (World.block_lt_of_cell? w _ hx595_0)).trans hx595_0;replace p595:=eq_true p595;replace q595:=eq_true q595))
 repeat (go_quiet (first|((with_reducible refine zAZ (N:=1) rfl ?_);refine zAW ?hg (N:=1) ?hd (cs:=#[.int .i64 a0_0,.int .i64 a0_1,.int .i64 a0_2,.int .i64 a0_3,.slice A0_4 l0_4.length c0_4,.int .i64 a0_5,.slice A0_6 l0_6.length c0_6,.slice A0_7 l0_7.length c0_7]) (t:=75) ?hr ?_;(case hd=>rfl);(case hg=>rfl);(case hr=>first|(go_simp;done)|(go_simp;rfl));intro gb593 hg w11 hbox hb;have n0_:=aK_ (zAG (aH_ HB.out) hb);have n1_:=aK_ (hbox);have n2_:=aK_ ((by rw [hg];exact (zAD (aH_ HB.out)):w.heap.size≤gb593));have n3_:=aK_ ((by rw [hg];exact (zAD (aH_ HB.out)):w.heap.size≤gb593));clear HB;have HB:=n0_;have BK593:=n1_;have GW593:=n2_;have GE593:=n3_;clear n0_ n1_ n2_ n3_;clear hb hbox hg;have hcz12_0:w11.cell? ⟨gb593,0,none⟩=some (.int .i64 a0_0):=(zAB BK593.out 0).trans rfl;have hcz12_1:w11.cell? ⟨gb593,1,none⟩=some (.int .i64 a0_1):=(zAB BK593.out 1).trans rfl;have hcz12_2:w11.cell? ⟨gb593,2,none⟩=some (.int .i64 a0_2):=(zAB BK593.out 2).trans rfl;have hcz12_3:w11.cell? ⟨gb593,3,none⟩=some (.int .i64 a0_3):=(zAB BK593.out 3).trans rfl;have hcz12_4:w11.cell? ⟨gb593,4,none⟩=some (.slice A0_4 l0_4.length c0_4):=(zAB BK593.out 4).trans rfl;have hcz12_5:w11.cell? ⟨gb593,5,none⟩=some (.int .i64 a0_5):=(zAB BK593.out 5).trans rfl;have hcz12_6:w11.cell? ⟨gb593,6,none⟩=some (.slice A0_6 l0_6.length c0_6):=(zAB BK593.out 6).trans rfl;have hcz12_7:w11.cell? ⟨gb593,7,none⟩=some (.slice A0_7 l0_7.length c0_7):=(zAB BK593.out 7).trans rfl;have hfz12_0:=zAA BK593.out 0;have hfz12_1:=zAA BK593.out 1;have hfz12_2:=zAA BK593.out 2;have hfz12_3:=zAA BK593.out 3;have hfz12_4:=zAA BK593.out 4;have hfz12_5:=zAA BK593.out 5;have hfz12_6:=zAA BK593.out 6;have hfz12_7:=zAA BK593.out 7;have p594:0≤(0:Int):=(by omega);have q594:0<(l0_6.length:Int):=aD_;obtain ⟨ad594,e594,hx594_0⟩:=Kd.at_int HR0_6.out 0 p594 q594;cases e594;have qi594:(0<l0_6.length)=True:=eq_true (by omega);(try rw [show ((0:Int)).toNat=0 from rfl] at hx594_0);(try rw [Addr.add_zero'] at hx594_0);replace hx594_0:=(HB.out.cell (World.block_lt_of_cell? w _ hx594_0)).trans hx594_0;replace p594:=eq_true p594;replace q594:=eq_true q594;have p595:0≤(1:Int):=(by omega);have q595:1<(l0_6.length:Int):=aD_;obtain ⟨ad595,e595,hx595_0⟩:=Kd.at_int HR0_6.out 1 p595 q595;obtain rfl:ad594=ad595:=(by injection e595);(try simp only [show (1:Int).toNat=1 from rfl,Nat.reduceMul,Nat.reduceEqDiff,Go.Addr.add,↓reduceIte] at hx595_0);have qi595:(1<l0_6.length)=True:=eq_true (by omega);(try rw [show ((1:Int)).toNat=1 from rfl] at hx595_0);replace hx595_0:=(HB.out.cell (World.block_lt_of_cell? w _ hx595_0)).trans hx595_0;replace p595:=eq_true p595;replace q595:=eq_true q595));go_upto_region 6 with (first|((with_reducible refine zAZ (N:=1) rfl ?_);refine zAW ?hg (N:=1) ?hd (cs:=#[.int .i64 a0_0,.int .i64 a0_1,.int .i64 a0_2,.int .i64 a0_3,.slice A0_4 l0_4.length c0_4,.int .i64 a0_5,.slice A0_6 l0_6.length c0_6,.slice A0_7 l0_7.length c0_7]) (t:=75) ?hr ?_;(case hd=>rfl);(case hg=>rfl);(case hr=>first|(go_simp;done)|(go_simp;rfl));intro gb593 hg w11 hbox hb;have n0_:=aK_ (zAG (aH_ HB.out) hb);have n1_:=aK_ (hbox);have n2_:=aK_ ((by rw [hg];exact (zAD (aH_ HB.out)):w.heap.size≤gb593));have n3_:=aK_ ((by rw [hg];exact (zAD (aH_ HB.out)):w.heap.size≤gb593));clear HB;have HB:=n0_;have BK593:=n1_;have GW593:=n2_;have GE593:=n3_;clear n0_ n1_ n2_ n3_;clear hb hbox hg;have hcz12_0:w11.cell? ⟨gb593,0,none⟩=some (.int .i64 a0_0):=(zAB BK593.out 0).trans rfl;have hcz12_1:w11.cell? ⟨gb593,1,none⟩=some (.int .i64 a0_1):=(zAB BK593.out 1).trans rfl;have hcz12_2:w11.cell? ⟨gb593,2,none⟩=some (.int .i64 a0_2):=(zAB BK593.out 2).trans rfl;have hcz12_3:w11.cell? ⟨gb593,3,none⟩=some (.int .i64 a0_3):=(zAB BK593.out 3).trans rfl;have hcz12_4:w11.cell? ⟨gb593,4,none⟩=some (.slice A0_4 l0_4.length c0_4):=(zAB BK593.out 4).trans rfl;have hcz12_5:w11.cell? ⟨gb593,5,none⟩=some (.int .i64 a0_5):=(zAB BK593.out 5).trans rfl;have hcz12_6:w11.cell? ⟨gb593,6,none⟩=some (.slice A0_6 l0_6.length c0_6):=(zAB BK593.out 6).trans rfl;have hcz12_7:w11.cell? ⟨gb593,7,none⟩=some (.slice A0_7 l0_7.length c0_7):=(zAB BK593.out 7).trans rfl;have hfz12_0:=zAA BK593.out 0;have hfz12_1:=zAA BK593.out 1;have hfz12_2:=zAA BK593.out 2;have hfz12_3:=zAA BK593.out 3;have hfz12_4:=zAA BK593.out 4;have hfz12_5:=zAA BK593.out 5;have hfz12_6:=zAA BK593.out 6;have hfz12_7:=zAA BK593.out 7;have p594:0≤(0:Int):=(by omega);have q594:0<(l0_6.length:Int):=aD_;obtain ⟨ad594,e594,hx594_0⟩:=Kd.at_int HR0_6.out 0 p594 q594;cases e594;have qi594:(0<l0_6.length)=True:=eq_true (by omega);(try rw [show ((0:Int)).toNat=0 from rfl] at hx594_0);(try rw [Addr.add_zero'] at hx594_0);replace hx594_0:=(HB.out.cell (World.block_lt_of_cell? w _ hx594_0)).trans hx594_0;replace p594:=eq_true p594;replace q594:=eq_true q594;have p595:0≤(1:Int):=(by omega);have q595:1<(l0_6.length:Int):=aD_;obtain ⟨ad595,e595,hx595_0⟩:=Kd.at_int HR0_6.out 1 p595 q595;obtain rfl:ad594=ad595:=(by injection e595);(try simp only [show (1:Int).toNat=1 from rfl,Nat.reduceMul,Nat.reduceEqDiff,Go.Addr.add,↓reduceIte] at hx595_0);have qi595:(1<l0_6.length)=True:=eq_true (by omega);(try rw [show ((1:Int)).toNat=1 from rfl] at hx595_0);replace hx595_0:=(HB.out.cell (World.block_lt_of_cell? w _ hx595_0)).trans hx595_0;replace p595:=eq_true p595;replace q595:=eq_true q595)))
 (try simp only [Act.put,List.setIfInBounds_toArray,List.set_cons_zero,List.set_cons_succ])
 go_cut [21] (fun v21 wc=>∃ (kq:Nat) (x21_9:Bool),v21 = .bool x21_9∧zAa (zAg.j0 kq (rd l0_6 0) (rd l0_6 1) x21_9=some r)∧zAa (kq≤k)∧zAa (wc.heap[gb593]?=some (.cells #[.int .i64 a0_0,.int .i64 a0_1,.int .i64 a0_2,.int .i64 a0_3,(.slice A0_4 l0_4.length c0_4),.int .i64 a0_5,(.slice (some ad594) l0_6.length c0_6),(.slice A0_7 l0_7.length c0_7)] 75 (0,0)))∧zAa (Below w.heap.size w wc))
 case first =>
  have H:=HC10.out
  clear HC10
  replace H:=Option.bind_eq_some_iff.mp H
  obtain ⟨t596,A130,H⟩:=H
  replace H:(if t596=true then (zAg.j0 k (rd l0_6 0) (rd l0_6 1) ((rd l0_6 1) == 1)) else (zAg.j0 k (rd l0_6 0) (rd l0_6 1) false))=some r:=H
  have A13:=aK_ A130
  clear A130
  by_cases c14:t596=true
  ·subst c14
   have H1:(zAg.j0 k (rd l0_6 0) (rd l0_6 1) ((rd l0_6 1) == 1))=some r:=by rw [if_pos rfl] at H;exact H
   clear H
   have H:=H1
   clear H1
   have H':=aK_ H
   clear H
   go_wp2_with (first|(go_at_call 85;(with_reducible refine (units_count.calls (rd l0_6 0) true _ A13.out).mono ?_);rintro e w' ⟨rfl,⟨nd,rfl⟩⟩;(try first|exact ⟨rfl,_,World.drewN_drewN _ _ _⟩|exact ⟨rfl,_,Eq.trans (World.drewN_drewN _ _ _) (congrArg (World.drewN _) (Nat.add_assoc _ _ _))⟩)))
   repeat (go_quiet (first|(go_at_call 85;(with_reducible refine (units_count.calls (rd l0_6 0) true _ A13.out).mono ?_);rintro e w' ⟨rfl,⟨nd,rfl⟩⟩;(try first|exact ⟨rfl,_,World.drewN_drewN _ _ _⟩|exact ⟨rfl,_,Eq.trans (World.drewN_drewN _ _ _) (congrArg (World.drewN _) (Nat.add_assoc _ _ _))⟩)));try go_wp2_with (first|(go_at_call 85;(with_reducible refine (units_count.calls (rd l0_6 0) true _ A13.out).mono ?_);rintro e w' ⟨rfl,⟨nd,rfl⟩⟩;(try first|exact ⟨rfl,_,World.drewN_drewN _ _ _⟩|exact ⟨rfl,_,Eq.trans (World.drewN_drewN _ _ _) (congrArg (World.drewN _) (Nat.add_assoc _ _ _))⟩))))
   go_meet
   case rel=>exact ⟨_,(((rd l0_6 1) == 1)),aS2_,H',⟨by first|omega|exact Nat.le_refl _⟩,⟨aB_ BK593.out⟩,⟨aI_ HB.out GE593.out⟩⟩
  replace c14:=Bool.eq_false_iff.mpr c14
  subst c14
  have H1:(zAg.j0 k (rd l0_6 0) (rd l0_6 1) false)=some r:=by rw [if_neg (show ¬ (false=true) by decide)] at H;exact H
  clear H
  have H:=H1
  clear H1
  have H':=aK_ H
  clear H
  go_wp2_with (first|(go_at_call 85;(with_reducible refine (units_count.calls (rd l0_6 0) false _ A13.out).mono ?_);rintro e w' ⟨rfl,⟨nd,rfl⟩⟩;(try first|exact ⟨rfl,_,World.drewN_drewN _ _ _⟩|exact ⟨rfl,_,Eq.trans (World.drewN_drewN _ _ _) (congrArg (World.drewN _) (Nat.add_assoc _ _ _))⟩)))
  repeat (go_quiet (first|(go_at_call 85;(with_reducible refine (units_count.calls (rd l0_6 0) false _ A13.out).mono ?_);rintro e w' ⟨rfl,⟨nd,rfl⟩⟩;(try first|exact ⟨rfl,_,World.drewN_drewN _ _ _⟩|exact ⟨rfl,_,Eq.trans (World.drewN_drewN _ _ _) (congrArg (World.drewN _) (Nat.add_assoc _ _ _))⟩)));try go_wp2_with (first|(go_at_call 85;(with_reducible refine (units_count.calls (rd l0_6 0) false _ A13.out).mono ?_);rintro e w' ⟨rfl,⟨nd,rfl⟩⟩;(try first|exact ⟨rfl,_,World.drewN_drewN _ _ _⟩|exact ⟨rfl,_,Eq.trans (World.drewN_drewN _ _ _) (congrArg (World.drewN _) (Nat.add_assoc _ _ _))⟩))))
  go_meet
  case rel=>exact ⟨_,(false),aS2_,H',⟨by first|omega|exact Nat.le_refl _⟩,⟨aB_ BK593.out⟩,⟨aI_ HB.out GE593.out⟩⟩
 clear HC10
 try clear c1
 try clear c2
 try clear c2b0
 try clear c2b1
 try clear p2
 try clear c3
 try clear c3b0
 try clear c3b1
 try clear c4
 try clear c4b0
 try clear c4b1
 try clear p5
 try clear q5
 try clear hx5
 try clear qi5
 try clear c6
 try clear c7
 try clear c7b0
 try clear c7b1
 try clear c14
 try clear hcz12_0
 try clear hcz12_1
 try clear hcz12_2
 try clear hcz12_3
 try clear hcz12_4
 try clear hcz12_5
 try clear hcz12_6
 try clear hcz12_7
 try clear hcz6_0
 try clear hcz6_1
 try clear hcz6_2
 try clear hcz6_3
 try clear hcz6_4
 try clear hcz6_5
 try clear hcz6_6
 try clear hcz6_7
 try clear hcz9_0
 try clear hcz9_1
 try clear hcz9_2
 try clear hcz9_3
 try clear hcz9_4
 try clear hcz9_5
 try clear hcz9_6
 try clear hcz9_7
 try clear hfz12_0
 try clear hfz12_1
 try clear hfz12_2
 try clear hfz12_3
 try clear hfz12_4
 try clear hfz12_5
 try clear hfz12_6
 try clear hfz12_7
 try clear hfz6_0
 try clear hfz6_1
 try clear hfz6_2
 try clear hfz6_3
 try clear hfz6_4
 try clear hfz6_5
 try clear hfz6_6
 try clear hfz6_7
 try clear hfz9_0
 try clear hfz9_1
 try clear hfz9_2
 try clear hfz9_3
 try clear hfz9_4
 try clear hfz9_5
 try clear hfz9_6
 try clear hfz9_7
 try clear hx594_0
 try clear hx595_0
 try clear p594
 try clear p595
 try clear q594
 try clear q595
 obtain ⟨kq,x21_9,rfl,HA,HJ9,BK593,HB⟩:=hcut
 cases kq with
 |zero=>exact absurd HA.out (by simp [zAg.j0])
 |succ kj9=>?_
 have H:=HA.out
 clear HA
 simp only [zAg.j0] at H
 by_cases c15:x21_9=true
 ·subst c15
  have H1:(some 1)=some r:=by rw [if_pos rfl] at H;exact H
  clear H
  have H:=H1
  clear H1
  obtain rfl:=Option.some.inj H
  go_wp2
  repeat (go_quiet (fail);try go_wp2)
  go_ret
  exact ⟨by first|rfl|(simp [zAE,zAF] <;> rfl)|(simp [*,zAE,zAF] <;> rfl),aI_ HB.out GE593.out⟩
 replace c15:=Bool.eq_false_iff.mpr c15
 subst c15
 have H1:((units_count.f (rd l0_6 1)).bind fun t597=>(if t597=true then (if (rd l0_6 0)=1 then (some 1) else (some (-1))) else (some (-1))))=some r:=by rw [if_neg (show ¬ (false=true) by decide)] at H;exact H
 clear H
 have H:=H1
 clear H1
 replace H:=Option.bind_eq_some_iff.mp H
 obtain ⟨t597,A160,H⟩:=H
 replace H:(if t597=true then (if (rd l0_6 0)=1 then (some 1) else (some (-1))) else (some (-1)))=some r:=H
 have A16:=aK_ A160
 clear A160
 by_cases c17:t597=true
 rotate_left
 ·replace c17:=Bool.eq_false_iff.mpr c17
  subst c17
  have H1:(some (-1))=some r:=by rw [if_neg (show ¬ (false=true) by decide)] at H;exact H
  clear H
  have H:=H1
  clear H1
  obtain rfl:=Option.some.inj H
  go_wp2_with (first|(go_at_call 85;(with_reducible refine (units_count.calls (rd l0_6 1) false _ A16.out).mono ?_);rintro e w' ⟨rfl,⟨nd,rfl⟩⟩;(try first|exact ⟨rfl,_,World.drewN_drewN _ _ _⟩|exact ⟨rfl,_,Eq.trans (World.drewN_drewN _ _ _) (congrArg (World.drewN _) (Nat.add_assoc _ _ _))⟩)))
  repeat (go_quiet (first|(go_at_call 85;(with_reducible refine (units_count.calls (rd l0_6 1) false _ A16.out).mono ?_);rintro e w' ⟨rfl,⟨nd,rfl⟩⟩;(try first|exact ⟨rfl,_,World.drewN_drewN _ _ _⟩|exact ⟨rfl,_,Eq.trans (World.drewN_drewN _ _ _) (congrArg (World.drewN _) (Nat.add_assoc _ _ _))⟩)));try go_wp2_with (first|(go_at_call 85;(with_reducible refine (units_count.calls (rd l0_6 1) false _ A16.out).mono ?_);rintro e w' ⟨rfl,⟨nd,rfl⟩⟩;(try first|exact ⟨rfl,_,World.drewN_drewN _ _ _⟩|exact ⟨rfl,_,Eq.trans (World.drewN_drewN _ _ _) (congrArg (World.drewN _) (Nat.add_assoc _ _ _))⟩))))
  go_ret
  exact ⟨by first|rfl|(simp [zAE,zAF] <;> rfl)|(simp [*,zAE,zAF] <;> rfl),aI_ HB.out GE593.out⟩
 subst c17
 have H1:(if (rd l0_6 0)=1 then (some 1) else (some (-1)))=some r:=by rw [if_pos rfl] at H;exact H
 clear H
 have H:=H1
 clear H1
 by_cases c18:(rd l0_6 0)=1
 rotate_left
 ·rw [if_neg c18] at H
  have c18b0:((rd l0_6 0) == 1)=false:=beq_eq_false_iff_ne.mpr c18
  have c18b1:((rd l0_6 0) != 1)=true:=bne_iff_ne.mpr c18
  obtain rfl:=Option.some.inj H
  go_wp2_with (first|(go_at_call 85;(with_reducible refine (units_count.calls (rd l0_6 1) true _ A16.out).mono ?_);rintro e w' ⟨rfl,⟨nd,rfl⟩⟩;(try first|exact ⟨rfl,_,World.drewN_drewN _ _ _⟩|exact ⟨rfl,_,Eq.trans (World.drewN_drewN _ _ _) (congrArg (World.drewN _) (Nat.add_assoc _ _ _))⟩)))
  repeat (go_quiet (first|(go_at_call 85;(with_reducible refine (units_count.calls (rd l0_6 1) true _ A16.out).mono ?_);rintro e w' ⟨rfl,⟨nd,rfl⟩⟩;(try first|exact ⟨rfl,_,World.drewN_drewN _ _ _⟩|exact ⟨rfl,_,Eq.trans (World.drewN_drewN _ _ _) (congrArg (World.drewN _) (Nat.add_assoc _ _ _))⟩)));try go_wp2_with (first|(go_at_call 85;(with_reducible refine (units_count.calls (rd l0_6 1) true _ A16.out).mono ?_);rintro e w' ⟨rfl,⟨nd,rfl⟩⟩;(try first|exact ⟨rfl,_,World.drewN_drewN _ _ _⟩|exact ⟨rfl,_,Eq.trans (World.drewN_drewN _ _ _) (congrArg (World.drewN _) (Nat.add_assoc _ _ _))⟩))))
  go_ret
  exact ⟨by first|rfl|(simp [zAE,zAF] <;> rfl)|(simp [*,zAE,zAF] <;> rfl),aI_ HB.out GE593.out⟩
 rw [if_pos c18] at H
 have c18b0:((rd l0_6 0) == 1)=true:=beq_iff_eq.mpr c18
 have c18b1:((rd l0_6 0) != 1)=false:=bne_eq_false_iff_eq.mpr c18
 clear c18
 obtain rfl:=Option.some.inj H
 go_wp2_with (first|(go_at_call 85;(with_reducible refine (units_count.calls (rd l0_6 1) true _ A16.out).mono ?_);rintro e w' ⟨rfl,⟨nd,rfl⟩⟩;(try first|exact ⟨rfl,_,World.drewN_drewN _ _ _⟩|exact ⟨rfl,_,Eq.trans (World.drewN_drewN _ _ _) (congrArg (World.drewN _) (Nat.add_assoc _ _ _))⟩)))
 repeat (go_quiet (first|(go_at_call 85;(with_reducible refine (units_count.calls (rd l0_6 1) true _ A16.out).mono ?_);rintro e w' ⟨rfl,⟨nd,rfl⟩⟩;(try first|exact ⟨rfl,_,World.drewN_drewN _ _ _⟩|exact ⟨rfl,_,Eq.trans (World.drewN_drewN _ _ _) (congrArg (World.drewN _) (Nat.add_assoc _ _ _))⟩)));try go_wp2_with (first|(go_at_call 85;(with_reducible refine (units_count.calls (rd l0_6 1) true _ A16.out).mono ?_);rintro e w' ⟨rfl,⟨nd,rfl⟩⟩;(try first|exact ⟨rfl,_,World.drewN_drewN _ _ _⟩|exact ⟨rfl,_,Eq.trans (World.drewN_drewN _ _ _) (congrArg (World.drewN _) (Nat.add_assoc _ _ _))⟩))))
 go_ret
 exact ⟨by first|rfl|(simp [zAE,zAF] <;> rfl)|(simp [*,zAE,zAF] <;> rfl),aI_ HB.out GE593.out⟩
end Go.Proofs.YthbnigjckjkmnaaDoor.S

namespace Go.Proofs.YthbnigjckjkmnaaDoor.S
open Go.RowKit Go.Proofs.YthbnigjckjkmnaaDoorW.PrintWords Go.Proofs.YthbnigjckjkmnaaDoorW.PrintLast Go.Proofs.YthbnigjckjkmnaaDoorW.PrintMore
attribute [local go_sem] max2_int min2_int max_two min_two max_three min_three max_four min_four
def units_node_counted.f (a0_0:Int) (a0_1:Int) (a0_2:Int) (a0_3:Int) (l0_4:List (S45)) (a0_5:Int) (l0_6:List Int) (l0_7:List Bool):Option (Int):=if 0<(l0_6.length:Int) then ((units_count.f (rd l0_6 0)).bind fun t600=>(if t600=true then (some (rd l0_6 0)) else (some (-1)))) else (none)
set_option maxHeartbeats 8000000 in
set_option maxRecDepth 100000 in
theorem units_node_counted.calls (a0_0:Int) (a0_1:Int) (a0_2:Int) (a0_3:Int) (A0_4:Option Addr) (c0_4:Nat) (l0_4:List (S45)) (a0_5:Int) (A0_6:Option Addr) (c0_6:Nat) (l0_6:List Int) (A0_7:Option Addr) (c0_7:Nat) (l0_7:List Bool) (r:Int) (w:World) (hr0_4:Kd.C k45 w A0_4 l0_4.length l0_4) (hc0_4:l0_4.length≤c0_4) (hr0_6:Kd.C (Kd.int .i64) w A0_6 l0_6.length l0_6) (hc0_6:l0_6.length≤c0_6) (hr0_7:Kd.C Kd.bool w A0_7 l0_7.length l0_7) (hc0_7:l0_7.length≤c0_7) (h:units_node_counted.f a0_0 a0_1 a0_2 a0_3 l0_4 a0_5 l0_6 l0_7=some r) :
  Calls Tryd.prog 69 #[.agg #[.int .i64 a0_0,.int .i64 a0_1,.int .i64 a0_2,.int .i64 a0_3,.slice A0_4 l0_4.length c0_4,.int .i64 a0_5,.slice A0_6 l0_6.length c0_6,.slice A0_7 l0_7.length c0_7]] w fun e w'=>e = .returned (.int .i64 r)∧Below w.heap.size w w':=by
 have hu75:=Tryd.underlying75
 have HR0_4:=aK_ hr0_4
 have HC0_4:=aK_ hc0_4
 clear hr0_4 hc0_4
 have HR0_6:=aK_ hr0_6
 have HC0_6:=aK_ hc0_6
 clear hr0_6 hc0_6
 have HR0_7:=aK_ hr0_7
 have HC0_7:=aK_ hc0_7
 clear hr0_7 hc0_7
 have HB:=aK_ (Below.refl w.heap.size w)
 have H:(if 0<(l0_6.length:Int) then ((units_count.f (rd l0_6 0)).bind fun t600=>(if t600=true then (some (rd l0_6 0)) else (some (-1)))) else (none))=some r:=h
 clear h
 by_cases c2:0<(l0_6.length:Int)
 rotate_left
 ·rw [if_neg c2] at H
  exact absurd H (by simp)
 rw [if_pos c2] at H
 have c2b0:decide (0<(l0_6.length:Int))=true:=decide_eq_true c2
 have c2b1:decide (0<l0_6.length)=true:=decide_eq_true (by omega)
 clear c2
 replace H:=Option.bind_eq_some_iff.mp H
 obtain ⟨t600,A30,H⟩:=H
 replace H:(if t600=true then (some (rd l0_6 0)) else (some (-1)))=some r:=H
 have A3:=aK_ A30
 clear A30
 by_cases c4:t600=true
 rotate_left
 ·replace c4:=Bool.eq_false_iff.mpr c4
  subst c4
  have H1:(some (-1))=some r:=by rw [if_neg (show ¬ (false=true) by decide)] at H;exact H
  clear H
  have H:=H1
  clear H1
  obtain rfl:=Option.some.inj H
  go_enter Tryd.func69,Tryd.ntmps69
  go_wp2_with (first|((with_reducible refine zAZ (N:=1) rfl ?_);refine zAW ?hg (N:=1) ?hd (cs:=#[.int .i64 a0_0,.int .i64 a0_1,.int .i64 a0_2,.int .i64 a0_3,.slice A0_4 l0_4.length c0_4,.int .i64 a0_5,.slice A0_6 l0_6.length c0_6,.slice A0_7 l0_7.length c0_7]) (t:=75) ?hr ?_;(case hd=>rfl);(case hg=>rfl);(case hr=>first|(go_simp;done)|(go_simp;rfl));intro gb598 hg w7 hbox hb;have n0_:=aK_ (zAG (aH_ HB.out) hb);have n1_:=aK_ (hbox);have n2_:=aK_ ((by rw [hg];exact (zAD (aH_ HB.out)):w.heap.size≤gb598));have n3_:=aK_ ((by rw [hg];exact (zAD (aH_ HB.out)):w.heap.size≤gb598));clear HB;have HB:=n0_;have BK598:=n1_;have GW598:=n2_;have GE598:=n3_;clear n0_ n1_ n2_ n3_;clear hb hbox hg;have hcz8_0:w7.cell? ⟨gb598,0,none⟩=some (.int .i64 a0_0):=(zAB BK598.out 0).trans rfl;have hcz8_1:w7.cell? ⟨gb598,1,none⟩=some (.int .i64 a0_1):=(zAB BK598.out 1).trans rfl;have hcz8_2:w7.cell? ⟨gb598,2,none⟩=some (.int .i64 a0_2):=(zAB BK598.out 2).trans rfl;have hcz8_3:w7.cell? ⟨gb598,3,none⟩=some (.int .i64 a0_3):=(zAB BK598.out 3).trans rfl;have hcz8_4:w7.cell? ⟨gb598,4,none⟩=some (.slice A0_4 l0_4.length c0_4):=(zAB BK598.out 4).trans rfl;have hcz8_5:w7.cell? ⟨gb598,5,none⟩=some (.int .i64 a0_5):=(zAB BK598.out 5).trans rfl;have hcz8_6:w7.cell? ⟨gb598,6,none⟩=some (.slice A0_6 l0_6.length c0_6):=(zAB BK598.out 6).trans rfl;have hcz8_7:w7.cell? ⟨gb598,7,none⟩=some (.slice A0_7 l0_7.length c0_7):=(zAB BK598.out 7).trans rfl;have hfz8_0:=zAA BK598.out 0;have hfz8_1:=zAA BK598.out 1;have hfz8_2:=zAA BK598.out 2;have hfz8_3:=zAA BK598.out 3;have hfz8_4:=zAA BK598.out 4;have hfz8_5:=zAA BK598.out 5;have hfz8_6:=zAA BK598.out 6;have hfz8_7:=zAA BK598.out 7;have p599:0≤(0:Int):=(by omega);have q599:0<(l0_6.length:Int):=aD_;obtain ⟨ad599,e599,hx599_0⟩:=Kd.at_int HR0_6.out 0 p599 q599;cases e599;have qi599:(0<l0_6.length)=True:=eq_true (by omega);(try rw [show ((0:Int)).toNat=0 from rfl] at hx599_0);(try rw [Addr.add_zero'] at hx599_0);replace hx599_0:=(HB.out.cell (World.block_lt_of_cell? w _ hx599_0)).trans hx599_0;replace p599:=eq_true p599;replace q599:=eq_true q599)|((with_reducible refine zAc (f:=85) rfl ?_);refine goesL_ (some 7) rfl rfl Tryd.func85 (by kernel_rfl) rfl #[.int .i64 (rd l0_6 0)] rfl aM_ ?_;(with_reducible refine (units_count.calls (rd l0_6 0) false _ A3.out).mono ?_);rintro e w' ⟨rfl,⟨nd,rfl⟩⟩;refine ⟨_,rfl,?_⟩))
  go_ret
  exact ⟨by first|rfl|(simp [zAE,zAF] <;> rfl)|(simp [*,zAE,zAF] <;> rfl),aI_ HB.out GE598.out⟩
 subst c4
 have H1:(some (rd l0_6 0))=some r:=by rw [if_pos rfl] at H;exact H
 clear H
 have H:=H1
 clear H1
 obtain rfl:=Option.some.inj H
 go_enter Tryd.func69,Tryd.ntmps69
 go_wp2_with (first|((with_reducible refine zAZ (N:=1) rfl ?_);refine zAW ?hg (N:=1) ?hd (cs:=#[.int .i64 a0_0,.int .i64 a0_1,.int .i64 a0_2,.int .i64 a0_3,.slice A0_4 l0_4.length c0_4,.int .i64 a0_5,.slice A0_6 l0_6.length c0_6,.slice A0_7 l0_7.length c0_7]) (t:=75) ?hr ?_;(case hd=>rfl);(case hg=>rfl);(case hr=>first|(go_simp;done)|(go_simp;rfl));intro gb598 hg w5 hbox hb;have n0_:=aK_ (zAG (aH_ HB.out) hb);have n1_:=aK_ (hbox);have n2_:=aK_ ((by rw [hg];exact (zAD (aH_ HB.out)):w.heap.size≤gb598));have n3_:=aK_ ((by rw [hg];exact (zAD (aH_ HB.out)):w.heap.size≤gb598));clear HB;have HB:=n0_;have BK598:=n1_;have GW598:=n2_;have GE598:=n3_;clear n0_ n1_ n2_ n3_;clear hb hbox hg;have hcz6_0:w5.cell? ⟨gb598,0,none⟩=some (.int .i64 a0_0):=(zAB BK598.out 0).trans rfl;have hcz6_1:w5.cell? ⟨gb598,1,none⟩=some (.int .i64 a0_1):=(zAB BK598.out 1).trans rfl;have hcz6_2:w5.cell? ⟨gb598,2,none⟩=some (.int .i64 a0_2):=(zAB BK598.out 2).trans rfl;have hcz6_3:w5.cell? ⟨gb598,3,none⟩=some (.int .i64 a0_3):=(zAB BK598.out 3).trans rfl;have hcz6_4:w5.cell? ⟨gb598,4,none⟩=some (.slice A0_4 l0_4.length c0_4):=(zAB BK598.out 4).trans rfl;have hcz6_5:w5.cell? ⟨gb598,5,none⟩=some (.int .i64 a0_5):=(zAB BK598.out 5).trans rfl;have hcz6_6:w5.cell? ⟨gb598,6,none⟩=some (.slice A0_6 l0_6.length c0_6):=(zAB BK598.out 6).trans rfl;have hcz6_7:w5.cell? ⟨gb598,7,none⟩=some (.slice A0_7 l0_7.length c0_7):=(zAB BK598.out 7).trans rfl;have hfz6_0:=zAA BK598.out 0;have hfz6_1:=zAA BK598.out 1;have hfz6_2:=zAA BK598.out 2;have hfz6_3:=zAA BK598.out 3;have hfz6_4:=zAA BK598.out 4;have hfz6_5:=zAA BK598.out 5;have hfz6_6:=zAA BK598.out 6;have hfz6_7:=zAA BK598.out 7;have p599:0≤(0:Int):=(by omega);have q599:0<(l0_6.length:Int):=aD_;obtain ⟨ad599,e599,hx599_0⟩:=Kd.at_int HR0_6.out 0 p599 q599;cases e599;have qi599:(0<l0_6.length)=True:=eq_true (by omega);(try rw [show ((0:Int)).toNat=0 from rfl] at hx599_0);(try rw [Addr.add_zero'] at hx599_0);replace hx599_0:=(HB.out.cell (World.block_lt_of_cell? w _ hx599_0)).trans hx599_0;replace p599:=eq_true p599;replace q599:=eq_true q599)|((with_reducible refine zAc (f:=85) rfl ?_);refine goesL_ (some 7) rfl rfl Tryd.func85 (by kernel_rfl) rfl #[.int .i64 (rd l0_6 0)] rfl aM_ ?_;(with_reducible refine (units_count.calls (rd l0_6 0) true _ A3.out).mono ?_);rintro e w' ⟨rfl,⟨nd,rfl⟩⟩;refine ⟨_,rfl,?_⟩;have p601:0≤(0:Int):=(by omega);have q601:0<(l0_6.length:Int):=aD_;obtain ⟨ad601,e601,hx601_0⟩:=Kd.at_int HR0_6.out 0 p601 q601;obtain rfl:ad599=ad601:=(by injection e601);have qi601:(0<l0_6.length)=True:=eq_true (by omega);(try rw [show ((0:Int)).toNat=0 from rfl] at hx601_0);(try rw [Addr.add_zero'] at hx601_0);replace hx601_0:=(HB.out.cell (World.block_lt_of_cell? w _ hx601_0)).trans hx601_0;replace p601:=eq_true p601;replace q601:=eq_true q601))
 go_ret
 exact ⟨by first|rfl|(simp [zAE,zAF] <;> rfl)|(simp [*,zAE,zAF] <;> rfl),aI_ HB.out GE598.out⟩
end Go.Proofs.YthbnigjckjkmnaaDoor.S

namespace Go.Proofs.YthbnigjckjkmnaaDoor.S
open Go.RowKit Go.Proofs.YthbnigjckjkmnaaDoorW.PrintWords Go.Proofs.YthbnigjckjkmnaaDoorW.PrintLast Go.Proofs.YthbnigjckjkmnaaDoorW.PrintMore
attribute [local go_sem] max2_int min2_int max_two min_two max_three min_three max_four min_four
def units_node_priced.f (a0_0:Int) (a0_1:Int) (a0_2:Int) (a0_3:Int) (l0_4:List (S45)) (a0_5:Int) (l0_6:List Int) (l0_7:List Bool):Option (Int):=if 0<(l0_6.length:Int) then ((units_count.f (rd l0_6 0)).bind fun t604=>(if t604=true then (some 1) else (some (-1)))) else (none)
set_option maxHeartbeats 8000000 in
set_option maxRecDepth 100000 in
theorem units_node_priced.calls (a0_0:Int) (a0_1:Int) (a0_2:Int) (a0_3:Int) (A0_4:Option Addr) (c0_4:Nat) (l0_4:List (S45)) (a0_5:Int) (A0_6:Option Addr) (c0_6:Nat) (l0_6:List Int) (A0_7:Option Addr) (c0_7:Nat) (l0_7:List Bool) (r:Int) (w:World) (hr0_4:Kd.C k45 w A0_4 l0_4.length l0_4) (hc0_4:l0_4.length≤c0_4) (hr0_6:Kd.C (Kd.int .i64) w A0_6 l0_6.length l0_6) (hc0_6:l0_6.length≤c0_6) (hr0_7:Kd.C Kd.bool w A0_7 l0_7.length l0_7) (hc0_7:l0_7.length≤c0_7) (h:units_node_priced.f a0_0 a0_1 a0_2 a0_3 l0_4 a0_5 l0_6 l0_7=some r) :
  Calls Tryd.prog 70 #[.agg #[.int .i64 a0_0,.int .i64 a0_1,.int .i64 a0_2,.int .i64 a0_3,.slice A0_4 l0_4.length c0_4,.int .i64 a0_5,.slice A0_6 l0_6.length c0_6,.slice A0_7 l0_7.length c0_7]] w fun e w'=>e = .returned (.int .i64 r)∧Below w.heap.size w w':=by
 have hu75:=Tryd.underlying75
 have HR0_4:=aK_ hr0_4
 have HC0_4:=aK_ hc0_4
 clear hr0_4 hc0_4
 have HR0_6:=aK_ hr0_6
 have HC0_6:=aK_ hc0_6
 clear hr0_6 hc0_6
 have HR0_7:=aK_ hr0_7
 have HC0_7:=aK_ hc0_7
 clear hr0_7 hc0_7
 have HB:=aK_ (Below.refl w.heap.size w)
 have H:(if 0<(l0_6.length:Int) then ((units_count.f (rd l0_6 0)).bind fun t604=>(if t604=true then (some 1) else (some (-1)))) else (none))=some r:=h
 clear h
 by_cases c2:0<(l0_6.length:Int)
 rotate_left
 ·rw [if_neg c2] at H
  exact absurd H (by simp)
 rw [if_pos c2] at H
 have c2b0:decide (0<(l0_6.length:Int))=true:=decide_eq_true c2
 have c2b1:decide (0<l0_6.length)=true:=decide_eq_true (by omega)
 clear c2
 replace H:=Option.bind_eq_some_iff.mp H
 obtain ⟨t604,A30,H⟩:=H
 replace H:(if t604=true then (some 1) else (some (-1)))=some r:=H
 have A3:=aK_ A30
 clear A30
 by_cases c4:t604=true
 ·subst c4
  have H1:(some 1)=some r:=by rw [if_pos rfl] at H;exact H
  clear H
  have H:=H1
  clear H1
  obtain rfl:=Option.some.inj H
  go_enter Tryd.func70,Tryd.ntmps70
  go_wp2_with (first|((with_reducible refine zAZ (N:=1) rfl ?_);refine zAW ?hg (N:=1) ?hd (cs:=#[.int .i64 a0_0,.int .i64 a0_1,.int .i64 a0_2,.int .i64 a0_3,.slice A0_4 l0_4.length c0_4,.int .i64 a0_5,.slice A0_6 l0_6.length c0_6,.slice A0_7 l0_7.length c0_7]) (t:=75) ?hr ?_;(case hd=>rfl);(case hg=>rfl);(case hr=>first|(go_simp;done)|(go_simp;rfl));intro gb602 hg w5 hbox hb;have n0_:=aK_ (zAG (aH_ HB.out) hb);have n1_:=aK_ (hbox);have n2_:=aK_ ((by rw [hg];exact (zAD (aH_ HB.out)):w.heap.size≤gb602));have n3_:=aK_ ((by rw [hg];exact (zAD (aH_ HB.out)):w.heap.size≤gb602));clear HB;have HB:=n0_;have BK602:=n1_;have GW602:=n2_;have GE602:=n3_;clear n0_ n1_ n2_ n3_;clear hb hbox hg;have hcz6_0:w5.cell? ⟨gb602,0,none⟩=some (.int .i64 a0_0):=(zAB BK602.out 0).trans rfl;have hcz6_1:w5.cell? ⟨gb602,1,none⟩=some (.int .i64 a0_1):=(zAB BK602.out 1).trans rfl;have hcz6_2:w5.cell? ⟨gb602,2,none⟩=some (.int .i64 a0_2):=(zAB BK602.out 2).trans rfl;have hcz6_3:w5.cell? ⟨gb602,3,none⟩=some (.int .i64 a0_3):=(zAB BK602.out 3).trans rfl;have hcz6_4:w5.cell? ⟨gb602,4,none⟩=some (.slice A0_4 l0_4.length c0_4):=(zAB BK602.out 4).trans rfl;have hcz6_5:w5.cell? ⟨gb602,5,none⟩=some (.int .i64 a0_5):=(zAB BK602.out 5).trans rfl;have hcz6_6:w5.cell? ⟨gb602,6,none⟩=some (.slice A0_6 l0_6.length c0_6):=(zAB BK602.out 6).trans rfl;have hcz6_7:w5.cell? ⟨gb602,7,none⟩=some (.slice A0_7 l0_7.length c0_7):=(zAB BK602.out 7).trans rfl;have hfz6_0:=zAA BK602.out 0;have hfz6_1:=zAA BK602.out 1;have hfz6_2:=zAA BK602.out 2;have hfz6_3:=zAA BK602.out 3;have hfz6_4:=zAA BK602.out 4;have hfz6_5:=zAA BK602.out 5;have hfz6_6:=zAA BK602.out 6;have hfz6_7:=zAA BK602.out 7;have p603:0≤(0:Int):=(by omega);have q603:0<(l0_6.length:Int):=aD_;obtain ⟨ad603,e603,hx603_0⟩:=Kd.at_int HR0_6.out 0 p603 q603;cases e603;have qi603:(0<l0_6.length)=True:=eq_true (by omega);(try rw [show ((0:Int)).toNat=0 from rfl] at hx603_0);(try rw [Addr.add_zero'] at hx603_0);replace hx603_0:=(HB.out.cell (World.block_lt_of_cell? w _ hx603_0)).trans hx603_0;replace p603:=eq_true p603;replace q603:=eq_true q603)|((with_reducible refine zAc (f:=85) rfl ?_);refine goesL_ (some 7) rfl rfl Tryd.func85 (by kernel_rfl) rfl #[.int .i64 (rd l0_6 0)] rfl aM_ ?_;(with_reducible refine (units_count.calls (rd l0_6 0) true _ A3.out).mono ?_);rintro e w' ⟨rfl,⟨nd,rfl⟩⟩;refine ⟨_,rfl,?_⟩))
  go_ret
  exact ⟨by first|rfl|(simp [zAE,zAF] <;> rfl)|(simp [*,zAE,zAF] <;> rfl),aI_ HB.out GE602.out⟩
 replace c4:=Bool.eq_false_iff.mpr c4
 subst c4
 have H1:(some (-1))=some r:=by rw [if_neg (show ¬ (false=true) by decide)] at H;exact H
 clear H
 have H:=H1
 clear H1
 obtain rfl:=Option.some.inj H
 go_enter Tryd.func70,Tryd.ntmps70
 go_wp2_with (first|((with_reducible refine zAZ (N:=1) rfl ?_);refine zAW ?hg (N:=1) ?hd (cs:=#[.int .i64 a0_0,.int .i64 a0_1,.int .i64 a0_2,.int .i64 a0_3,.slice A0_4 l0_4.length c0_4,.int .i64 a0_5,.slice A0_6 l0_6.length c0_6,.slice A0_7 l0_7.length c0_7]) (t:=75) ?hr ?_;(case hd=>rfl);(case hg=>rfl);(case hr=>first|(go_simp;done)|(go_simp;rfl));intro gb602 hg w7 hbox hb;have n0_:=aK_ (zAG (aH_ HB.out) hb);have n1_:=aK_ (hbox);have n2_:=aK_ ((by rw [hg];exact (zAD (aH_ HB.out)):w.heap.size≤gb602));have n3_:=aK_ ((by rw [hg];exact (zAD (aH_ HB.out)):w.heap.size≤gb602));clear HB;have HB:=n0_;have BK602:=n1_;have GW602:=n2_;have GE602:=n3_;clear n0_ n1_ n2_ n3_;clear hb hbox hg;have hcz8_0:w7.cell? ⟨gb602,0,none⟩=some (.int .i64 a0_0):=(zAB BK602.out 0).trans rfl;have hcz8_1:w7.cell? ⟨gb602,1,none⟩=some (.int .i64 a0_1):=(zAB BK602.out 1).trans rfl;have hcz8_2:w7.cell? ⟨gb602,2,none⟩=some (.int .i64 a0_2):=(zAB BK602.out 2).trans rfl;have hcz8_3:w7.cell? ⟨gb602,3,none⟩=some (.int .i64 a0_3):=(zAB BK602.out 3).trans rfl;have hcz8_4:w7.cell? ⟨gb602,4,none⟩=some (.slice A0_4 l0_4.length c0_4):=(zAB BK602.out 4).trans rfl;have hcz8_5:w7.cell? ⟨gb602,5,none⟩=some (.int .i64 a0_5):=(zAB BK602.out 5).trans rfl;have hcz8_6:w7.cell? ⟨gb602,6,none⟩=some (.slice A0_6 l0_6.length c0_6):=(zAB BK602.out 6).trans rfl;have hcz8_7:w7.cell? ⟨gb602,7,none⟩=some (.slice A0_7 l0_7.length c0_7):=(zAB BK602.out 7).trans rfl;have hfz8_0:=zAA BK602.out 0;have hfz8_1:=zAA BK602.out 1;have hfz8_2:=zAA BK602.out 2;have hfz8_3:=zAA BK602.out 3;have hfz8_4:=zAA BK602.out 4;have hfz8_5:=zAA BK602.out 5;have hfz8_6:=zAA BK602.out 6;have hfz8_7:=zAA BK602.out 7;have p603:0≤(0:Int):=(by omega);have q603:0<(l0_6.length:Int):=aD_;obtain ⟨ad603,e603,hx603_0⟩:=Kd.at_int HR0_6.out 0 p603 q603;cases e603;have qi603:(0<l0_6.length)=True:=eq_true (by omega);(try rw [show ((0:Int)).toNat=0 from rfl] at hx603_0);(try rw [Addr.add_zero'] at hx603_0);replace hx603_0:=(HB.out.cell (World.block_lt_of_cell? w _ hx603_0)).trans hx603_0;replace p603:=eq_true p603;replace q603:=eq_true q603)|((with_reducible refine zAc (f:=85) rfl ?_);refine goesL_ (some 7) rfl rfl Tryd.func85 (by kernel_rfl) rfl #[.int .i64 (rd l0_6 0)] rfl aM_ ?_;(with_reducible refine (units_count.calls (rd l0_6 0) false _ A3.out).mono ?_);rintro e w' ⟨rfl,⟨nd,rfl⟩⟩;refine ⟨_,rfl,?_⟩))
 go_ret
 exact ⟨by first|rfl|(simp [zAE,zAF] <;> rfl)|(simp [*,zAE,zAF] <;> rfl),aI_ HB.out GE602.out⟩
end Go.Proofs.YthbnigjckjkmnaaDoor.S

namespace Go.Proofs.YthbnigjckjkmnaaDoor.S
open Go.RowKit Go.Proofs.YthbnigjckjkmnaaDoorW.PrintWords Go.Proofs.YthbnigjckjkmnaaDoorW.PrintLast Go.Proofs.YthbnigjckjkmnaaDoorW.PrintMore
attribute [local go_sem] max2_int min2_int max_two min_two max_three min_three max_four min_four
def units_node_off.f (a0_0:Int) (a0_1:Int) (a0_2:Int) (a0_3:Int) (l0_4:List (S45)) (a0_5:Int) (l0_6:List Int) (l0_7:List Bool):Option (Int):=if 0<(l0_6.length:Int) then (if (rd l0_6 0)=1 then (some 1) else (some (-1))) else (none)
set_option maxHeartbeats 8000000 in
set_option maxRecDepth 100000 in
theorem units_node_off.calls (a0_0:Int) (a0_1:Int) (a0_2:Int) (a0_3:Int) (A0_4:Option Addr) (c0_4:Nat) (l0_4:List (S45)) (a0_5:Int) (A0_6:Option Addr) (c0_6:Nat) (l0_6:List Int) (A0_7:Option Addr) (c0_7:Nat) (l0_7:List Bool) (r:Int) (w:World) (hr0_4:Kd.C k45 w A0_4 l0_4.length l0_4) (hc0_4:l0_4.length≤c0_4) (hr0_6:Kd.C (Kd.int .i64) w A0_6 l0_6.length l0_6) (hc0_6:l0_6.length≤c0_6) (hr0_7:Kd.C Kd.bool w A0_7 l0_7.length l0_7) (hc0_7:l0_7.length≤c0_7) (h:units_node_off.f a0_0 a0_1 a0_2 a0_3 l0_4 a0_5 l0_6 l0_7=some r) :
  Calls Tryd.prog 71 #[.agg #[.int .i64 a0_0,.int .i64 a0_1,.int .i64 a0_2,.int .i64 a0_3,.slice A0_4 l0_4.length c0_4,.int .i64 a0_5,.slice A0_6 l0_6.length c0_6,.slice A0_7 l0_7.length c0_7]] w fun e w'=>e = .returned (.int .i64 r)∧Below w.heap.size w w':=by
 have hu75:=Tryd.underlying75
 have HR0_4:=aK_ hr0_4
 have HC0_4:=aK_ hc0_4
 clear hr0_4 hc0_4
 have HR0_6:=aK_ hr0_6
 have HC0_6:=aK_ hc0_6
 clear hr0_6 hc0_6
 have HR0_7:=aK_ hr0_7
 have HC0_7:=aK_ hc0_7
 clear hr0_7 hc0_7
 have HB:=aK_ (Below.refl w.heap.size w)
 have H:(if 0<(l0_6.length:Int) then (if (rd l0_6 0)=1 then (some 1) else (some (-1))) else (none))=some r:=h
 clear h
 by_cases c2:0<(l0_6.length:Int)
 rotate_left
 ·rw [if_neg c2] at H
  exact absurd H (by simp)
 rw [if_pos c2] at H
 have c2b0:decide (0<(l0_6.length:Int))=true:=decide_eq_true c2
 have c2b1:decide (0<l0_6.length)=true:=decide_eq_true (by omega)
 clear c2
 by_cases c3:(rd l0_6 0)=1
 rotate_left
 ·rw [if_neg c3] at H
  have c3b0:((rd l0_6 0) == 1)=false:=beq_eq_false_iff_ne.mpr c3
  have c3b1:((rd l0_6 0) != 1)=true:=bne_iff_ne.mpr c3
  obtain rfl:=Option.some.inj H
  go_enter Tryd.func71,Tryd.ntmps71
  go_wp2_with (first|((with_reducible refine zAZ (N:=1) rfl ?_);refine zAW ?hg (N:=1) ?hd (cs:=#[.int .i64 a0_0,.int .i64 a0_1,.int .i64 a0_2,.int .i64 a0_3,.slice A0_4 l0_4.length c0_4,.int .i64 a0_5,.slice A0_6 l0_6.length c0_6,.slice A0_7 l0_7.length c0_7]) (t:=75) ?hr ?_;(case hd=>rfl);(case hg=>rfl);(case hr=>first|(go_simp;done)|(go_simp;rfl));intro gb605 hg w6 hbox hb;have n0_:=aK_ (zAG (aH_ HB.out) hb);have n1_:=aK_ (hbox);have n2_:=aK_ ((by rw [hg];exact (zAD (aH_ HB.out)):w.heap.size≤gb605));have n3_:=aK_ ((by rw [hg];exact (zAD (aH_ HB.out)):w.heap.size≤gb605));clear HB;have HB:=n0_;have BK605:=n1_;have GW605:=n2_;have GE605:=n3_;clear n0_ n1_ n2_ n3_;clear hb hbox hg;have hcz7_0:w6.cell? ⟨gb605,0,none⟩=some (.int .i64 a0_0):=(zAB BK605.out 0).trans rfl;have hcz7_1:w6.cell? ⟨gb605,1,none⟩=some (.int .i64 a0_1):=(zAB BK605.out 1).trans rfl;have hcz7_2:w6.cell? ⟨gb605,2,none⟩=some (.int .i64 a0_2):=(zAB BK605.out 2).trans rfl;have hcz7_3:w6.cell? ⟨gb605,3,none⟩=some (.int .i64 a0_3):=(zAB BK605.out 3).trans rfl;have hcz7_4:w6.cell? ⟨gb605,4,none⟩=some (.slice A0_4 l0_4.length c0_4):=(zAB BK605.out 4).trans rfl;have hcz7_5:w6.cell? ⟨gb605,5,none⟩=some (.int .i64 a0_5):=(zAB BK605.out 5).trans rfl;have hcz7_6:w6.cell? ⟨gb605,6,none⟩=some (.slice A0_6 l0_6.length c0_6):=(zAB BK605.out 6).trans rfl;have hcz7_7:w6.cell? ⟨gb605,7,none⟩=some (.slice A0_7 l0_7.length c0_7):=(zAB BK605.out 7).trans rfl;have hfz7_0:=zAA BK605.out 0;have hfz7_1:=zAA BK605.out 1;have hfz7_2:=zAA BK605.out 2;have hfz7_3:=zAA BK605.out 3;have hfz7_4:=zAA BK605.out 4;have hfz7_5:=zAA BK605.out 5;have hfz7_6:=zAA BK605.out 6;have hfz7_7:=zAA BK605.out 7;have p606:0≤(0:Int):=(by omega);have q606:0<(l0_6.length:Int):=aD_;obtain ⟨ad606,e606,hx606_0⟩:=Kd.at_int HR0_6.out 0 p606 q606;cases e606;have qi606:(0<l0_6.length)=True:=eq_true (by omega);(try rw [show ((0:Int)).toNat=0 from rfl] at hx606_0);(try rw [Addr.add_zero'] at hx606_0);replace hx606_0:=(HB.out.cell (World.block_lt_of_cell? w _ hx606_0)).trans hx606_0;replace p606:=eq_true p606;replace q606:=eq_true q606))
  go_ret
  exact ⟨by first|rfl|(simp [zAE,zAF] <;> rfl)|(simp [*,zAE,zAF] <;> rfl),aI_ HB.out GE605.out⟩
 rw [if_pos c3] at H
 have c3b0:((rd l0_6 0) == 1)=true:=beq_iff_eq.mpr c3
 have c3b1:((rd l0_6 0) != 1)=false:=bne_eq_false_iff_eq.mpr c3
 clear c3
 obtain rfl:=Option.some.inj H
 go_enter Tryd.func71,Tryd.ntmps71
 go_wp2_with (first|((with_reducible refine zAZ (N:=1) rfl ?_);refine zAW ?hg (N:=1) ?hd (cs:=#[.int .i64 a0_0,.int .i64 a0_1,.int .i64 a0_2,.int .i64 a0_3,.slice A0_4 l0_4.length c0_4,.int .i64 a0_5,.slice A0_6 l0_6.length c0_6,.slice A0_7 l0_7.length c0_7]) (t:=75) ?hr ?_;(case hd=>rfl);(case hg=>rfl);(case hr=>first|(go_simp;done)|(go_simp;rfl));intro gb605 hg w4 hbox hb;have n0_:=aK_ (zAG (aH_ HB.out) hb);have n1_:=aK_ (hbox);have n2_:=aK_ ((by rw [hg];exact (zAD (aH_ HB.out)):w.heap.size≤gb605));have n3_:=aK_ ((by rw [hg];exact (zAD (aH_ HB.out)):w.heap.size≤gb605));clear HB;have HB:=n0_;have BK605:=n1_;have GW605:=n2_;have GE605:=n3_;clear n0_ n1_ n2_ n3_;clear hb hbox hg;have hcz5_0:w4.cell? ⟨gb605,0,none⟩=some (.int .i64 a0_0):=(zAB BK605.out 0).trans rfl;have hcz5_1:w4.cell? ⟨gb605,1,none⟩=some (.int .i64 a0_1):=(zAB BK605.out 1).trans rfl;have hcz5_2:w4.cell? ⟨gb605,2,none⟩=some (.int .i64 a0_2):=(zAB BK605.out 2).trans rfl;have hcz5_3:w4.cell? ⟨gb605,3,none⟩=some (.int .i64 a0_3):=(zAB BK605.out 3).trans rfl;have hcz5_4:w4.cell? ⟨gb605,4,none⟩=some (.slice A0_4 l0_4.length c0_4):=(zAB BK605.out 4).trans rfl;have hcz5_5:w4.cell? ⟨gb605,5,none⟩=some (.int .i64 a0_5):=(zAB BK605.out 5).trans rfl;have hcz5_6:w4.cell? ⟨gb605,6,none⟩=some (.slice A0_6 l0_6.length c0_6):=(zAB BK605.out 6).trans rfl;have hcz5_7:w4.cell? ⟨gb605,7,none⟩=some (.slice A0_7 l0_7.length c0_7):=(zAB BK605.out 7).trans rfl;have hfz5_0:=zAA BK605.out 0;have hfz5_1:=zAA BK605.out 1;have hfz5_2:=zAA BK605.out 2;have hfz5_3:=zAA BK605.out 3;have hfz5_4:=zAA BK605.out 4;have hfz5_5:=zAA BK605.out 5;have hfz5_6:=zAA BK605.out 6;have hfz5_7:=zAA BK605.out 7;have p606:0≤(0:Int):=(by omega);have q606:0<(l0_6.length:Int):=aD_;obtain ⟨ad606,e606,hx606_0⟩:=Kd.at_int HR0_6.out 0 p606 q606;cases e606;have qi606:(0<l0_6.length)=True:=eq_true (by omega);(try rw [show ((0:Int)).toNat=0 from rfl] at hx606_0);(try rw [Addr.add_zero'] at hx606_0);replace hx606_0:=(HB.out.cell (World.block_lt_of_cell? w _ hx606_0)).trans hx606_0;replace p606:=eq_true p606;replace q606:=eq_true q606))
 go_ret
 exact ⟨by first|rfl|(simp [zAE,zAF] <;> rfl)|(simp [*,zAE,zAF] <;> rfl),aI_ HB.out GE605.out⟩
end Go.Proofs.YthbnigjckjkmnaaDoor.S

namespace Go.Proofs.YthbnigjckjkmnaaDoor.S
open Go.RowKit Go.Proofs.YthbnigjckjkmnaaDoorW.PrintWords Go.Proofs.YthbnigjckjkmnaaDoorW.PrintLast Go.Proofs.YthbnigjckjkmnaaDoorW.PrintMore
attribute [local go_sem] max2_int min2_int max_two min_two max_three min_three max_four min_four
def units_node_test.f (k:Nat) (a0_0:Int) (a0_1:Int) (a0_2:Int) (a0_3:Int) (l0_4:List (S45)) (a0_5:Int) (l0_6:List Int) (l0_7:List Bool):Option (Int):=if 0<(l0_6.length:Int) then ((units_count.f (rd l0_6 0)).bind fun t609=>(if t609=true then ((zAk.f k a0_0 a0_1 a0_2 a0_3 l0_4 a0_5 l0_6 l0_7 1).bind fun t610=>(some t610)) else (some (-1)))) else (none)
theorem units_node_test.mono:∀ a0 a1 a2 a3 a4 a5 a6 a7 k,LeO (units_node_test.f k a0 a1 a2 a3 a4 a5 a6 a7) (units_node_test.f (k+1) a0 a1 a2 a3 a4 a5 a6 a7):=by
 intro a0 a1 a2 a3 a4 a5 a6 a7 k
 unfold units_node_test.f
 repeat' first
   |(with_reducible exact zAk.mono _ _ _ _ _ _ _ _ _ _)
   |(with_reducible exact LeO.refl _)
   |(with_reducible exact LeO.none _)
   |(with_reducible refine LeO.ite ?_ ?_)
   |(with_reducible refine LeO.bind ?_ (fun _=>?_))
   |exact zAk.mono _ _ _ _ _ _ _ _ _ _
   |exact LeO.none _
   |refine LeO.ite ?_ ?_
   |refine LeO.bind ?_ (fun _=>?_)
set_option maxHeartbeats 8000000 in
set_option maxRecDepth 100000 in
theorem units_node_test.calls (k:Nat) (a0_0:Int) (a0_1:Int) (a0_2:Int) (a0_3:Int) (A0_4:Option Addr) (c0_4:Nat) (l0_4:List (S45)) (a0_5:Int) (A0_6:Option Addr) (c0_6:Nat) (l0_6:List Int) (A0_7:Option Addr) (c0_7:Nat) (l0_7:List Bool) (r:Int) (w:World) (hr0_4:Kd.C k45 w A0_4 l0_4.length l0_4) (hc0_4:l0_4.length≤c0_4) (hr0_6:Kd.C (Kd.int .i64) w A0_6 l0_6.length l0_6) (hc0_6:l0_6.length≤c0_6) (hr0_7:Kd.C Kd.bool w A0_7 l0_7.length l0_7) (hc0_7:l0_7.length≤c0_7) (h:units_node_test.f k a0_0 a0_1 a0_2 a0_3 l0_4 a0_5 l0_6 l0_7=some r) :
  Calls Tryd.prog 72 #[.agg #[.int .i64 a0_0,.int .i64 a0_1,.int .i64 a0_2,.int .i64 a0_3,.slice A0_4 l0_4.length c0_4,.int .i64 a0_5,.slice A0_6 l0_6.length c0_6,.slice A0_7 l0_7.length c0_7]] w fun e w'=>e = .returned (.int .i64 r)∧Below w.heap.size w w':=by
 have hu75:=Tryd.underlying75
 have HR0_4:=aK_ hr0_4
 have HC0_4:=aK_ hc0_4
 clear hr0_4 hc0_4
 have HR0_6:=aK_ hr0_6
 have HC0_6:=aK_ hc0_6
 clear hr0_6 hc0_6
 have HR0_7:=aK_ hr0_7
 have HC0_7:=aK_ hc0_7
 clear hr0_7 hc0_7
 have HB:=aK_ (Below.refl w.heap.size w)
 have H:(if 0<(l0_6.length:Int) then ((units_count.f (rd l0_6 0)).bind fun t609=>(if t609=true then ((zAk.f k a0_0 a0_1 a0_2 a0_3 l0_4 a0_5 l0_6 l0_7 1).bind fun t610=>(some t610)) else (some (-1)))) else (none))=some r:=h
 clear h
 by_cases c2:0<(l0_6.length:Int)
 rotate_left
 ·rw [if_neg c2] at H
  exact absurd H (by simp)
 rw [if_pos c2] at H
 have c2b0:decide (0<(l0_6.length:Int))=true:=decide_eq_true c2
 have c2b1:decide (0<l0_6.length)=true:=decide_eq_true (by omega)
 clear c2
 replace H:=Option.bind_eq_some_iff.mp H
 obtain ⟨t609,A30,H⟩:=H
 replace H:(if t609=true then ((zAk.f k a0_0 a0_1 a0_2 a0_3 l0_4 a0_5 l0_6 l0_7 1).bind fun t610=>(some t610)) else (some (-1)))=some r:=H
 have A3:=aK_ A30
 clear A30
 by_cases c4:t609=true
 rotate_left
 ·replace c4:=Bool.eq_false_iff.mpr c4
  subst c4
  have H1:(some (-1))=some r:=by rw [if_neg (show ¬ (false=true) by decide)] at H;exact H
  clear H
  have H:=H1
  clear H1
  obtain rfl:=Option.some.inj H
  go_enter Tryd.func72,Tryd.ntmps72
  go_wp2_with (first|((with_reducible refine zAZ (N:=1) rfl ?_);refine zAW ?hg (N:=1) ?hd (cs:=#[.int .i64 a0_0,.int .i64 a0_1,.int .i64 a0_2,.int .i64 a0_3,.slice A0_4 l0_4.length c0_4,.int .i64 a0_5,.slice A0_6 l0_6.length c0_6,.slice A0_7 l0_7.length c0_7]) (t:=75) ?hr ?_;(case hd=>rfl);(case hg=>rfl);(case hr=>first|(go_simp;done)|(go_simp;rfl));intro gb607 hg w9 hbox hb;have n0_:=aK_ (zAG (aH_ HB.out) hb);have n1_:=aK_ (hbox);have n2_:=aK_ ((by rw [hg];exact (zAD (aH_ HB.out)):w.heap.size≤gb607));have n3_:=aK_ ((by rw [hg];exact (zAD (aH_ HB.out)):w.heap.size≤gb607));clear HB;have HB:=n0_;have BK607:=n1_;have GW607:=n2_;have GE607:=n3_;clear n0_ n1_ n2_ n3_;clear hb hbox hg;have hcz10_0:w9.cell? ⟨gb607,0,none⟩=some (.int .i64 a0_0):=(zAB BK607.out 0).trans rfl;have hcz10_1:w9.cell? ⟨gb607,1,none⟩=some (.int .i64 a0_1):=(zAB BK607.out 1).trans rfl;have hcz10_2:w9.cell? ⟨gb607,2,none⟩=some (.int .i64 a0_2):=(zAB BK607.out 2).trans rfl;have hcz10_3:w9.cell? ⟨gb607,3,none⟩=some (.int .i64 a0_3):=(zAB BK607.out 3).trans rfl;have hcz10_4:w9.cell? ⟨gb607,4,none⟩=some (.slice A0_4 l0_4.length c0_4):=(zAB BK607.out 4).trans rfl;have hcz10_5:w9.cell? ⟨gb607,5,none⟩=some (.int .i64 a0_5):=(zAB BK607.out 5).trans rfl;have hcz10_6:w9.cell? ⟨gb607,6,none⟩=some (.slice A0_6 l0_6.length c0_6):=(zAB BK607.out 6).trans rfl;have hcz10_7:w9.cell? ⟨gb607,7,none⟩=some (.slice A0_7 l0_7.length c0_7):=(zAB BK607.out 7).trans rfl;have hfz10_0:=zAA BK607.out 0;have hfz10_1:=zAA BK607.out 1;have hfz10_2:=zAA BK607.out 2;have hfz10_3:=zAA BK607.out 3;have hfz10_4:=zAA BK607.out 4;have hfz10_5:=zAA BK607.out 5;have hfz10_6:=zAA BK607.out 6;have hfz10_7:=zAA BK607.out 7;have p608:0≤(0:Int):=(by omega);have q608:0<(l0_6.length:Int):=aD_;obtain ⟨ad608,e608,hx608_0⟩:=Kd.at_int HR0_6.out 0 p608 q608;cases e608;have qi608:(0<l0_6.length)=True:=eq_true (by omega);(try rw [show ((0:Int)).toNat=0 from rfl] at hx608_0);(try rw [Addr.add_zero'] at hx608_0);replace hx608_0:=(HB.out.cell (World.block_lt_of_cell? w _ hx608_0)).trans hx608_0;replace p608:=eq_true p608;replace q608:=eq_true q608)|((with_reducible refine zAc (f:=85) rfl ?_);refine goesL_ (some 7) rfl rfl Tryd.func85 (by kernel_rfl) rfl #[.int .i64 (rd l0_6 0)] rfl aM_ ?_;(with_reducible refine (units_count.calls (rd l0_6 0) false _ A3.out).mono ?_);rintro e w' ⟨rfl,⟨nd,rfl⟩⟩;refine ⟨_,rfl,?_⟩))
  go_ret
  exact ⟨by first|rfl|(simp [zAE,zAF] <;> rfl)|(simp [*,zAE,zAF] <;> rfl),aI_ HB.out GE607.out⟩
 subst c4
 have H1:((zAk.f k a0_0 a0_1 a0_2 a0_3 l0_4 a0_5 l0_6 l0_7 1).bind fun t610=>(some t610))=some r:=by rw [if_pos rfl] at H;exact H
 clear H
 have H:=H1
 clear H1
 replace H:=Option.bind_eq_some_iff.mp H
 obtain ⟨t610,A50,H⟩:=H
 replace H:(some t610)=some r:=H
 have A5:=aK_ A50
 clear A50
 obtain rfl:=Option.some.inj H
 go_enter Tryd.func72,Tryd.ntmps72
 go_wp2_with (first|((with_reducible refine zAZ (N:=1) rfl ?_);refine zAW ?hg (N:=1) ?hd (cs:=#[.int .i64 a0_0,.int .i64 a0_1,.int .i64 a0_2,.int .i64 a0_3,.slice A0_4 l0_4.length c0_4,.int .i64 a0_5,.slice A0_6 l0_6.length c0_6,.slice A0_7 l0_7.length c0_7]) (t:=75) ?hr ?_;(case hd=>rfl);(case hg=>rfl);(case hr=>first|(go_simp;done)|(go_simp;rfl));intro gb607 hg w6 hbox hb;have n0_:=aK_ (zAG (aH_ HB.out) hb);have n1_:=aK_ (hbox);have n2_:=aK_ ((by rw [hg];exact (zAD (aH_ HB.out)):w.heap.size≤gb607));have n3_:=aK_ ((by rw [hg];exact (zAD (aH_ HB.out)):w.heap.size≤gb607));clear HB;have HB:=n0_;have BK607:=n1_;have GW607:=n2_;have GE607:=n3_;clear n0_ n1_ n2_ n3_;clear hb hbox hg;have hcz7_0:w6.cell? ⟨gb607,0,none⟩=some (.int .i64 a0_0):=(zAB BK607.out 0).trans rfl;have hcz7_1:w6.cell? ⟨gb607,1,none⟩=some (.int .i64 a0_1):=(zAB BK607.out 1).trans rfl;have hcz7_2:w6.cell? ⟨gb607,2,none⟩=some (.int .i64 a0_2):=(zAB BK607.out 2).trans rfl;have hcz7_3:w6.cell? ⟨gb607,3,none⟩=some (.int .i64 a0_3):=(zAB BK607.out 3).trans rfl;have hcz7_4:w6.cell? ⟨gb607,4,none⟩=some (.slice A0_4 l0_4.length c0_4):=(zAB BK607.out 4).trans rfl;have hcz7_5:w6.cell? ⟨gb607,5,none⟩=some (.int .i64 a0_5):=(zAB BK607.out 5).trans rfl;have hcz7_6:w6.cell? ⟨gb607,6,none⟩=some (.slice A0_6 l0_6.length c0_6):=(zAB BK607.out 6).trans rfl;have hcz7_7:w6.cell? ⟨gb607,7,none⟩=some (.slice A0_7 l0_7.length c0_7):=(zAB BK607.out 7).trans rfl;have hfz7_0:=zAA BK607.out 0;have hfz7_1:=zAA BK607.out 1;have hfz7_2:=zAA BK607.out 2;have hfz7_3:=zAA BK607.out 3;have hfz7_4:=zAA BK607.out 4;have hfz7_5:=zAA BK607.out 5;have hfz7_6:=zAA BK607.out 6;have hfz7_7:=zAA BK607.out 7;have p608:0≤(0:Int):=(by omega);have q608:0<(l0_6.length:Int):=aD_;obtain ⟨ad608,e608,hx608_0⟩:=Kd.at_int HR0_6.out 0 p608 q608;cases e608;have qi608:(0<l0_6.length)=True:=eq_true (by omega);(try rw [show ((0:Int)).toNat=0 from rfl] at hx608_0);(try rw [Addr.add_zero'] at hx608_0);replace hx608_0:=(HB.out.cell (World.block_lt_of_cell? w _ hx608_0)).trans hx608_0;replace p608:=eq_true p608;replace q608:=eq_true q608)|((with_reducible refine zAc (f:=85) rfl ?_);refine goesL_ (some 7) rfl rfl Tryd.func85 (by kernel_rfl) rfl #[.int .i64 (rd l0_6 0)] rfl aM_ ?_;(with_reducible refine (units_count.calls (rd l0_6 0) true _ A3.out).mono ?_);rintro e w' ⟨rfl,⟨nd,rfl⟩⟩;refine ⟨_,rfl,?_⟩)|((with_reducible refine zAc (f:=84) rfl ?_);refine goesL_ (some 9) rfl rfl Tryd.func84 (by kernel_rfl) rfl #[.agg #[.int .i64 a0_0,.int .i64 a0_1,.int .i64 a0_2,.int .i64 a0_3,.slice A0_4 l0_4.length c0_4,.int .i64 a0_5,.slice (some ad608) l0_6.length c0_6,.slice A0_7 l0_7.length c0_7],.int .i64 1] rfl aM_ ?_;(with_reducible refine (zAk.calls k a0_0 a0_1 a0_2 a0_3 _ _ l0_4 a0_5 _ _ l0_6 _ _ l0_7 1 t610 _ ?side1 ?side2 ?side3 ?side4 ?side5 ?side6 A5.out).mono ?_);(case side1=>repeat (first|exact (Kd.C_below HR0_4.out (aI_ HB.out GE607.out))|(with_reducible refine Kd.C_alloc ?_ _)|(with_reducible refine Kd.C_drewN ?_ _)|(with_reducible refine Kd.C_drew ?_)));(case side2=>exact HC0_4.out);(case side3=>repeat (first|exact (Kd.C_below HR0_6.out (aI_ HB.out GE607.out))|(with_reducible refine Kd.C_alloc ?_ _)|(with_reducible refine Kd.C_drewN ?_ _)|(with_reducible refine Kd.C_drew ?_)));(case side4=>exact HC0_6.out);(case side5=>repeat (first|exact (Kd.C_below HR0_7.out (aI_ HB.out GE607.out))|(with_reducible refine Kd.C_alloc ?_ _)|(with_reducible refine Kd.C_drewN ?_ _)|(with_reducible refine Kd.C_drew ?_)));(case side6=>exact HC0_7.out);rintro e w8 ⟨rfl,hb⟩;refine ⟨_,rfl,?_⟩;have n0_:=aK_ (zAY (g:=gb607) (o:=.cells #[.int .i64 a0_0,.int .i64 a0_1,.int .i64 a0_2,.int .i64 a0_3,.slice A0_4 l0_4.length c0_4,.int .i64 a0_5,.slice (some ad608) l0_6.length c0_6,.slice A0_7 l0_7.length c0_7] 75 (0,0)) (aB_ BK607.out) hb);have n1_:=aK_ (zAG (aI_ HB.out GE607.out) hb);clear BK607;clear HB;have BK607:=n0_;have HB:=n1_;clear n0_ n1_;(try clear hb);(try clear hb2);(try clear hk);(try clear hi)))
 go_ret
 exact ⟨by first|rfl|(simp [zAE,zAF] <;> rfl)|(simp [*,zAE,zAF] <;> rfl),aI_ HB.out GE607.out⟩
end Go.Proofs.YthbnigjckjkmnaaDoor.S

namespace Go.Proofs.YthbnigjckjkmnaaDoor.S
open Go.RowKit Go.Proofs.YthbnigjckjkmnaaDoorW.PrintWords Go.Proofs.YthbnigjckjkmnaaDoorW.PrintLast Go.Proofs.YthbnigjckjkmnaaDoorW.PrintMore
theorem goesD_ {P : Program} {ops : Array Oper} {Q : Exit → Act → World → Prop} {oi : Oper} {N : Option Tmp} {a : Act} {w : World} {K : Act → World → Prop} {f : FuncId} (T : Tmp) {xs_ : Array Operand} {ts : Array TypeId}
    (hfn : ∃ fn, P.funcs[f]? = some fn ∧ (fn.name == "runtime.NumGoroutine") = false ∧ fn.body.isSome = true) (args : Array Value)
    (hw : Region.wanted oi (yielded ops a.tmps) = true) (hN : oi.dst = N) (hop : oi.op = .call { callee := .value (.tmp T), args := xs_, argTypes := ts }) (hv : a.eval (.tmp T) = .func (.func f) #[] #[]) (hargs : xs_.map a.eval = args)
    (h : Calls P f args w fun e w' => ∃ v, e = .returned v ∧ K (a.put N v) w') : if Region.wanted oi (yielded ops a.tmps) = true then Oper.wp P oi a w K Q else K (a.put N undef) w := by
  obtain ⟨fn, hf, hname, hb⟩ := hfn
  refine call_ f args hw hN ?_ h
  have he := enters_ hf hname hb args w
  unfold execOp
  simp [hop, resolve, Deferred.ofValue, invoke, hv, hargs, he]
theorem ob_ne {x : Nat} {A : Option Addr} {n m c c' : Nat} (h : some x ≠ (Value.slice A n c).ownBlock) : some x ≠ (Value.slice A m c').ownBlock := by
  cases A <;> exact h
theorem num_fn {k : Int} (h : 1 ≤ k ∧ k ≤ 16) : ∃ fn, Tryd.prog.funcs[numOf k]? = some fn ∧ (fn.name == "runtime.NumGoroutine") = false ∧ fn.body.isSome = true := by
  have hc : k = 1 ∨ k = 2 ∨ k = 3 ∨ k = 4 ∨ k = 5 ∨ k = 6 ∨ k = 7 ∨ k = 8 ∨ k = 9 ∨ k = 10 ∨ k = 11 ∨ k = 12 ∨ k = 13 ∨ k = 14 ∨ k = 15 ∨ k = 16 := by omega
  rcases hc with rfl | rfl | rfl | rfl | rfl | rfl | rfl | rfl | rfl | rfl | rfl | rfl | rfl | rfl | rfl | rfl
  · exact ⟨_, Tryd.func63, by kernel_rfl, rfl⟩
  · exact ⟨_, Tryd.func64, by kernel_rfl, rfl⟩
  · exact ⟨_, Tryd.func65, by kernel_rfl, rfl⟩
  · exact ⟨_, Tryd.func66, by kernel_rfl, rfl⟩
  · exact ⟨_, Tryd.func67, by kernel_rfl, rfl⟩
  · exact ⟨_, Tryd.func67, by kernel_rfl, rfl⟩
  · exact ⟨_, Tryd.func67, by kernel_rfl, rfl⟩
  · exact ⟨_, Tryd.func68, by kernel_rfl, rfl⟩
  · exact ⟨_, Tryd.func67, by kernel_rfl, rfl⟩
  · exact ⟨_, Tryd.func67, by kernel_rfl, rfl⟩
  · exact ⟨_, Tryd.func69, by kernel_rfl, rfl⟩
  · exact ⟨_, Tryd.func69, by kernel_rfl, rfl⟩
  · exact ⟨_, Tryd.func70, by kernel_rfl, rfl⟩
  · exact ⟨_, Tryd.func70, by kernel_rfl, rfl⟩
  · exact ⟨_, Tryd.func71, by kernel_rfl, rfl⟩
  · exact ⟨_, Tryd.func72, by kernel_rfl, rfl⟩
theorem rules_range {a r1 r2 : Int} (h : units_rules.f a = some (r1, r2)) : 1 ≤ r1 ∧ r1 ≤ 16 := by
  unfold units_rules.f at h
  split at h
  · rename_i hk
    have h_ : a = r1 ∧ kidsOf a = r2 := by simpa using h
    obtain ⟨rfl, rfl⟩ := h_
    exact hk
  · cases h
def units_dyn.f (k : Nat) (x : Int) (a0 a1 a2 a3 : Int) (l4 : List S45) (a5 : Int) (l6 : List Int) (l7 : List Bool) : Option Int :=
  if x = 1 then units_node_number.f a0 a1 a2 a3 l4 a5 l6 l7
  else if x = 2 then units_node_money.f a0 a1 a2 a3 l4 a5 l6 l7
  else if x = 3 then units_node_quantity.f a0 a1 a2 a3 l4 a5 l6 l7
  else if x = 4 then units_node_blocks.f a0 a1 a2 a3 l4 a5 l6 l7
  else if x = 8 then zAg.f k a0 a1 a2 a3 l4 a5 l6 l7
  else if x = 11 ∨ x = 12 then units_node_counted.f a0 a1 a2 a3 l4 a5 l6 l7
  else if x = 13 ∨ x = 14 then units_node_priced.f a0 a1 a2 a3 l4 a5 l6 l7
  else if x = 15 then units_node_off.f a0 a1 a2 a3 l4 a5 l6 l7
  else if x = 16 then units_node_test.f k a0 a1 a2 a3 l4 a5 l6 l7
  else if 5 ≤ x ∧ x ≤ 10 then units_node_alike.f k a0 a1 a2 a3 l4 a5 l6 l7 else none
theorem units_dyn.mono : ∀ x a0 a1 a2 a3 a4 a5 a6 a7 k, LeO (units_dyn.f k x a0 a1 a2 a3 a4 a5 a6 a7) (units_dyn.f (k + 1) x a0 a1 a2 a3 a4 a5 a6 a7) := by
  intro x a0 a1 a2 a3 a4 a5 a6 a7 k
  unfold units_dyn.f
  repeat' first
    | exact units_node_alike.mono _ _ _ _ _ _ _ _ _
    | exact zAg.mono _ _ _ _ _ _ _ _ _
    | exact units_node_test.mono _ _ _ _ _ _ _ _ _
    | exact LeO.refl _
    | refine LeO.ite ?_ ?_
theorem units_dyn.calls (k : Nat) (x : Int) (a0_0 : Int) (a0_1 : Int) (a0_2 : Int) (a0_3 : Int) (A0_4 : Option Addr) (c0_4 : Nat) (l0_4 : List (S45)) (a0_5 : Int) (A0_6 : Option Addr) (c0_6 : Nat) (l0_6 : List Int) (A0_7 : Option Addr) (c0_7 : Nat) (l0_7 : List Bool) (r : Int) (w : World) (hr0_4 : Kd.C k45 w A0_4 l0_4.length l0_4) (hc0_4 : l0_4.length ≤ c0_4) (hr0_6 : Kd.C (Kd.int .i64) w A0_6 l0_6.length l0_6) (hc0_6 : l0_6.length ≤ c0_6) (hr0_7 : Kd.C Kd.bool w A0_7 l0_7.length l0_7) (hc0_7 : l0_7.length ≤ c0_7) (h : units_dyn.f k x a0_0 a0_1 a0_2 a0_3 l0_4 a0_5 l0_6 l0_7 = some r) :
    Calls Tryd.prog (numOf x) #[.agg #[.int .i64 a0_0, .int .i64 a0_1, .int .i64 a0_2, .int .i64 a0_3, .slice A0_4 l0_4.length c0_4, .int .i64 a0_5, .slice A0_6 l0_6.length c0_6, .slice A0_7 l0_7.length c0_7]] w fun e w' => e = .returned (.int .i64 r) ∧ Below w.heap.size w w' := by
  unfold units_dyn.f at h
  split at h
  · subst x
    exact units_node_number.calls _ _ _ _ _ _ _ _ _ _ _ _ _ _ _ _ hr0_4 hc0_4 hr0_6 hc0_6 hr0_7 hc0_7 h
  split at h
  · subst x
    exact units_node_money.calls _ _ _ _ _ _ _ _ _ _ _ _ _ _ _ _ hr0_4 hc0_4 hr0_6 hc0_6 hr0_7 hc0_7 h
  split at h
  · subst x
    exact units_node_quantity.calls _ _ _ _ _ _ _ _ _ _ _ _ _ _ _ _ hr0_4 hc0_4 hr0_6 hc0_6 hr0_7 hc0_7 h
  split at h
  · subst x
    exact units_node_blocks.calls _ _ _ _ _ _ _ _ _ _ _ _ _ _ _ _ hr0_4 hc0_4 hr0_6 hc0_6 hr0_7 hc0_7 h
  split at h
  · subst x
    exact zAg.calls _ _ _ _ _ _ _ _ _ _ _ _ _ _ _ _ _ hr0_4 hc0_4 hr0_6 hc0_6 hr0_7 hc0_7 h
  split at h
  · rename_i hx
    rcases hx with rfl | rfl
    · exact units_node_counted.calls _ _ _ _ _ _ _ _ _ _ _ _ _ _ _ _ hr0_4 hc0_4 hr0_6 hc0_6 hr0_7 hc0_7 h
    · exact units_node_counted.calls _ _ _ _ _ _ _ _ _ _ _ _ _ _ _ _ hr0_4 hc0_4 hr0_6 hc0_6 hr0_7 hc0_7 h
  split at h
  · rename_i hx
    rcases hx with rfl | rfl
    · exact units_node_priced.calls _ _ _ _ _ _ _ _ _ _ _ _ _ _ _ _ hr0_4 hc0_4 hr0_6 hc0_6 hr0_7 hc0_7 h
    · exact units_node_priced.calls _ _ _ _ _ _ _ _ _ _ _ _ _ _ _ _ hr0_4 hc0_4 hr0_6 hc0_6 hr0_7 hc0_7 h
  split at h
  · subst x
    exact units_node_off.calls _ _ _ _ _ _ _ _ _ _ _ _ _ _ _ _ hr0_4 hc0_4 hr0_6 hc0_6 hr0_7 hc0_7 h
  split at h
  · subst x
    exact units_node_test.calls _ _ _ _ _ _ _ _ _ _ _ _ _ _ _ _ _ hr0_4 hc0_4 hr0_6 hc0_6 hr0_7 hc0_7 h
  split at h
  · rename_i hx
    have hc : x = 5 ∨ x = 6 ∨ x = 7 ∨ x = 9 ∨ x = 10 := by omega
    rcases hc with rfl | rfl | rfl | rfl | rfl
    · exact units_node_alike.calls _ _ _ _ _ _ _ _ _ _ _ _ _ _ _ _ _ hr0_4 hc0_4 hr0_6 hc0_6 hr0_7 hc0_7 h
    · exact units_node_alike.calls _ _ _ _ _ _ _ _ _ _ _ _ _ _ _ _ _ hr0_4 hc0_4 hr0_6 hc0_6 hr0_7 hc0_7 h
    · exact units_node_alike.calls _ _ _ _ _ _ _ _ _ _ _ _ _ _ _ _ _ hr0_4 hc0_4 hr0_6 hc0_6 hr0_7 hc0_7 h
    · exact units_node_alike.calls _ _ _ _ _ _ _ _ _ _ _ _ _ _ _ _ _ hr0_4 hc0_4 hr0_6 hc0_6 hr0_7 hc0_7 h
    · exact units_node_alike.calls _ _ _ _ _ _ _ _ _ _ _ _ _ _ _ _ _ hr0_4 hc0_4 hr0_6 hc0_6 hr0_7 hc0_7 h
  cases h
end Go.Proofs.YthbnigjckjkmnaaDoor.S
