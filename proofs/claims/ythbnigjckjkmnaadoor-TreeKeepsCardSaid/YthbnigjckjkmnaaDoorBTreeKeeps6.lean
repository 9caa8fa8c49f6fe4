/- What the proof needs, part 6 of 21. TreeKeeps: for every raw plan and number Part leaves its arguments as they were, and what it answers is new memory. -/
import Derived.Test.YthbnigjckjkmnaaDoorBTreeKeeps5
set_option linter.unusedVariables false
set_option linter.unusedSimpArgs false
namespace Go.Proofs.YthbnigjckjkmnaaDoor.S
open Go.RowKit Go.Proofs.YthbnigjckjkmnaaDoorW.PrintWords Go.Proofs.YthbnigjckjkmnaaDoorW.PrintLast Go.Proofs.YthbnigjckjkmnaaDoorW.PrintMore
attribute [local go_sem] max2_int min2_int max_two min_two max_three min_three max_four min_four
def tree_Same_1.f (k:Nat) (a0_0:Int) (a0_1:Int) (a0_2:Int) (a0_3:Int) (l0_4:List (S45)) (a0_5:Int) (a1_0:Int) (a1_1:Int) (a1_2:Int) (a1_3:Int) (l1_4:List (S45)) (a1_5:Int):Option (Bool):=if a0_0=a1_0 then (if a0_1=a1_1 then (if a0_2=a1_2 then (if a0_3=a1_3 then ((zAc.f k l0_4 l1_4).bind fun t105=>(some t105)) else (some false)) else (some false)) else (some false)) else (some false)
theorem tree_Same_1.mono:∀ a0 a1 a2 a3 a4 a5 a6 a7 a8 a9 a10 a11 k,LeO (tree_Same_1.f k a0 a1 a2 a3 a4 a5 a6 a7 a8 a9 a10 a11) (tree_Same_1.f (k+1) a0 a1 a2 a3 a4 a5 a6 a7 a8 a9 a10 a11):=by
 intro a0 a1 a2 a3 a4 a5 a6 a7 a8 a9 a10 a11 k
 unfold tree_Same_1.f
 repeat' first
   |(with_reducible exact zAc.mono _ _ _)
   |(with_reducible exact LeO.refl _)
   |(with_reducible exact LeO.none _)
   |(with_reducible refine LeO.ite ?_ ?_)
   |(with_reducible refine LeO.bind ?_ (fun _=>?_))
   |exact zAc.mono _ _ _
   |exact LeO.none _
   |refine LeO.ite ?_ ?_
   |refine LeO.bind ?_ (fun _=>?_)
set_option maxHeartbeats 8000000 in
set_option maxRecDepth 100000 in
theorem tree_Same_1.calls (k:Nat) (a0_0:Int) (a0_1:Int) (a0_2:Int) (a0_3:Int) (A0_4:Option Addr) (c0_4:Nat) (l0_4:List (S45)) (a0_5:Int) (a1_0:Int) (a1_1:Int) (a1_2:Int) (a1_3:Int) (A1_4:Option Addr) (c1_4:Nat) (l1_4:List (S45)) (a1_5:Int) (r:Bool) (w:World) (hr0_4:Kd.C k45 w A0_4 l0_4.length l0_4) (hc0_4:l0_4.length≤c0_4) (hr1_4:Kd.C k45 w A1_4 l1_4.length l1_4) (hc1_4:l1_4.length≤c1_4) (h:tree_Same_1.f k a0_0 a0_1 a0_2 a0_3 l0_4 a0_5 a1_0 a1_1 a1_2 a1_3 l1_4 a1_5=some r) :
  Calls Tryd.prog 43 #[.agg #[.int .i64 a0_0,.int .i64 a0_1,.int .i64 a0_2,.int .i64 a0_3,.slice A0_4 l0_4.length c0_4,.int .i64 a0_5],.agg #[.int .i64 a1_0,.int .i64 a1_1,.int .i64 a1_2,.int .i64 a1_3,.slice A1_4 l1_4.length c1_4,.int .i64 a1_5]] w fun e w'=>e = .returned (.bool r)∧Below w.heap.size w w':=by
 have hu33:=Tryd.underlying33
 have HR0_4:=aK_ hr0_4
 have HC0_4:=aK_ hc0_4
 clear hr0_4 hc0_4
 have HR1_4:=aK_ hr1_4
 have HC1_4:=aK_ hc1_4
 clear hr1_4 hc1_4
 have HB:=aK_ (Below.refl w.heap.size w)
 have H:(if a0_0=a1_0 then (if a0_1=a1_1 then (if a0_2=a1_2 then (if a0_3=a1_3 then ((zAc.f k l0_4 l1_4).bind fun t105=>(some t105)) else (some false)) else (some false)) else (some false)) else (some false))=some r:=h
 clear h
 by_cases c3:a0_0=a1_0
 rotate_left
 ·rw [if_neg c3] at H
  have c3b0:(a0_0 == a1_0)=false:=beq_eq_false_iff_ne.mpr c3
  have c3b1:(a0_0 != a1_0)=true:=bne_iff_ne.mpr c3
  obtain rfl:=Option.some.inj H
  go_enter Tryd.func43,Tryd.ntmps43
  go_wp2_with (first|((with_reducible refine zAX (N:=2) rfl ?_);refine zAW ?hg (N:=2) ?hd (cs:=#[.int .i64 a0_0,.int .i64 a0_1,.int .i64 a0_2,.int .i64 a0_3,.slice A0_4 l0_4.length c0_4,.int .i64 a0_5]) (t:=33) ?hr ?_;(case hd=>rfl);(case hg=>rfl);(case hr=>first|(go_simp;done)|(go_simp;rfl));intro gb103 hg w28 hbox hb;have n0_:=aK_ (zAG (aH_ HB.out) hb);have n1_:=aK_ (hbox);have n2_:=aK_ ((by rw [hg];exact (zAE (aH_ HB.out)):w.heap.size≤gb103));have n3_:=aK_ ((by rw [hg];exact (zAE (aH_ HB.out)):w.heap.size≤gb103));clear HB;have HB:=n0_;have BK103:=n1_;have GW103:=n2_;have GE103:=n3_;clear n0_ n1_ n2_ n3_;clear hb hbox hg)|((with_reducible refine zAX (N:=3) rfl ?_);refine zAW ?hg (N:=3) ?hd (cs:=#[.int .i64 a1_0,.int .i64 a1_1,.int .i64 a1_2,.int .i64 a1_3,.slice A1_4 l1_4.length c1_4,.int .i64 a1_5]) (t:=33) ?hr ?_;(case hd=>rfl);(case hg=>rfl);(case hr=>first|(go_simp;done)|(go_simp;rfl));intro gb104 hg w29 hbox hb;have n0_:=aK_ (zAM (g:=gb103) (o:=.cells #[.int .i64 a0_0,.int .i64 a0_1,.int .i64 a0_2,.int .i64 a0_3,.slice A0_4 l0_4.length c0_4,.int .i64 a0_5] 33 (0,0)) (aB_ BK103.out) hb);have n1_:=aK_ (zAG (aI_ HB.out GE103.out) hb);have n2_:=aK_ (hbox);have n3_:=aK_ ((by rw [hg];exact (zAE (aI_ HB.out GE103.out)):w.heap.size≤gb104));have n4_:=aK_ ((by rw [hg];exact (zAE (aI_ HB.out GE103.out)):w.heap.size≤gb104));have n5_:=aK_ ((by rw [hg];exact Nat.ne_of_lt (blk_lt (g:=gb103) (o:=.cells #[.int .i64 a0_0,.int .i64 a0_1,.int .i64 a0_2,.int .i64 a0_3,.slice A0_4 l0_4.length c0_4,.int .i64 a0_5] 33 (0,0)) (aB_ BK103.out)):gb103≠gb104));have n6_:=aK_ ((by rw [hg];exact Nat.ne_of_gt (blk_lt (g:=gb103) (o:=.cells #[.int .i64 a0_0,.int .i64 a0_1,.int .i64 a0_2,.int .i64 a0_3,.slice A0_4 l0_4.length c0_4,.int .i64 a0_5] 33 (0,0)) (aB_ BK103.out)):gb104≠gb103));clear BK103;clear HB;have BK103:=n0_;have HB:=n1_;have BK104:=n2_;have GW104:=n3_;have GE104:=n4_;have NB103_104:=n5_;have NB104_103:=n6_;clear n0_ n1_ n2_ n3_ n4_ n5_ n6_;clear hb hbox hg;have hnb30:=NB103_104.out;have hnc30:=NB104_103.out;have hcz31_0:w29.cell? ⟨gb103,0,none⟩=some (.int .i64 a0_0):=(zAB BK103.out 0).trans rfl;have hcz31_1:w29.cell? ⟨gb103,1,none⟩=some (.int .i64 a0_1):=(zAB BK103.out 1).trans rfl;have hcz31_2:w29.cell? ⟨gb103,2,none⟩=some (.int .i64 a0_2):=(zAB BK103.out 2).trans rfl;have hcz31_3:w29.cell? ⟨gb103,3,none⟩=some (.int .i64 a0_3):=(zAB BK103.out 3).trans rfl;have hcz31_4:w29.cell? ⟨gb103,4,none⟩=some (.slice A0_4 l0_4.length c0_4):=(zAB BK103.out 4).trans rfl;have hcz31_5:w29.cell? ⟨gb103,5,none⟩=some (.int .i64 a0_5):=(zAB BK103.out 5).trans rfl;have hfz31_0:=zAA BK103.out 0;have hfz31_1:=zAA BK103.out 1;have hfz31_2:=zAA BK103.out 2;have hfz31_3:=zAA BK103.out 3;have hfz31_4:=zAA BK103.out 4;have hfz31_5:=zAA BK103.out 5;have hcz32_0:w29.cell? ⟨gb104,0,none⟩=some (.int .i64 a1_0):=(zAB BK104.out 0).trans rfl;have hcz32_1:w29.cell? ⟨gb104,1,none⟩=some (.int .i64 a1_1):=(zAB BK104.out 1).trans rfl;have hcz32_2:w29.cell? ⟨gb104,2,none⟩=some (.int .i64 a1_2):=(zAB BK104.out 2).trans rfl;have hcz32_3:w29.cell? ⟨gb104,3,none⟩=some (.int .i64 a1_3):=(zAB BK104.out 3).trans rfl;have hcz32_4:w29.cell? ⟨gb104,4,none⟩=some (.slice A1_4 l1_4.length c1_4):=(zAB BK104.out 4).trans rfl;have hcz32_5:w29.cell? ⟨gb104,5,none⟩=some (.int .i64 a1_5):=(zAB BK104.out 5).trans rfl;have hfz32_0:=zAA BK104.out 0;have hfz32_1:=zAA BK104.out 1;have hfz32_2:=zAA BK104.out 2;have hfz32_3:=zAA BK104.out 3;have hfz32_4:=zAA BK104.out 4;have hfz32_5:=zAA BK104.out 5))
  go_ret
  exact ⟨by first|rfl|(simp [zAQ,zAR] <;> rfl)|(simp [*,zAQ,zAR] <;> rfl),aJ_ HB.out GE103.out GE104.out⟩
 rw [if_pos c3] at H
 have c3b0:(a0_0 == a1_0)=true:=beq_iff_eq.mpr c3
 have c3b1:(a0_0 != a1_0)=false:=bne_eq_false_iff_eq.mpr c3
 clear c3
 by_cases c4:a0_1=a1_1
 rotate_left
 ·rw [if_neg c4] at H
  have c4b0:(a0_1 == a1_1)=false:=beq_eq_false_iff_ne.mpr c4
  have c4b1:(a0_1 != a1_1)=true:=bne_iff_ne.mpr c4
  obtain rfl:=Option.some.inj H
  go_enter Tryd.func43,Tryd.ntmps43
  go_wp2_with (first|((with_reducible refine zAX (N:=2) rfl ?_);refine zAW ?hg (N:=2) ?hd (cs:=#[.int .i64 a0_0,.int .i64 a0_1,.int .i64 a0_2,.int .i64 a0_3,.slice A0_4 l0_4.length c0_4,.int .i64 a0_5]) (t:=33) ?hr ?_;(case hd=>rfl);(case hg=>rfl);(case hr=>first|(go_simp;done)|(go_simp;rfl));intro gb103 hg w23 hbox hb;have n0_:=aK_ (zAG (aH_ HB.out) hb);have n1_:=aK_ (hbox);have n2_:=aK_ ((by rw [hg];exact (zAE (aH_ HB.out)):w.heap.size≤gb103));have n3_:=aK_ ((by rw [hg];exact (zAE (aH_ HB.out)):w.heap.size≤gb103));clear HB;have HB:=n0_;have BK103:=n1_;have GW103:=n2_;have GE103:=n3_;clear n0_ n1_ n2_ n3_;clear hb hbox hg)|((with_reducible refine zAX (N:=3) rfl ?_);refine zAW ?hg (N:=3) ?hd (cs:=#[.int .i64 a1_0,.int .i64 a1_1,.int .i64 a1_2,.int .i64 a1_3,.slice A1_4 l1_4.length c1_4,.int .i64 a1_5]) (t:=33) ?hr ?_;(case hd=>rfl);(case hg=>rfl);(case hr=>first|(go_simp;done)|(go_simp;rfl));intro gb104 hg w24 hbox hb;have n0_:=aK_ (zAM (g:=gb103) (o:=.cells #[.int .i64 a0_0,.int .i64 a0_1,.int .i64 a0_2,.int .i64 a0_3,.slice A0_4 l0_4.length c0_4,.int .i64 a0_5] 33 (0,0)) (aB_ BK103.out) hb);have n1_:=aK_ (zAG (aI_ HB.out GE103.out) hb);have n2_:=aK_ (hbox);have n3_:=aK_ ((by rw [hg];exact (zAE (aI_ HB.out GE103.out)):w.heap.size≤gb104));have n4_:=aK_ ((by rw [hg];exact (zAE (aI_ HB.out GE103.out)):w.heap.size≤gb104));have n5_:=aK_ ((by rw [hg];exact Nat.ne_of_lt (blk_lt (g:=gb103) (o:=.cells #[.int .i64 a0_0,.int .i64 a0_1,.int .i64 a0_2,.int .i64 a0_3,.slice A0_4 l0_4.length c0_4,.int .i64 a0_5] 33 (0,0)) (aB_ BK103.out)):gb103≠gb104));have n6_:=aK_ ((by rw [hg];exact Nat.ne_of_gt (blk_lt (g:=gb103) (o:=.cells #[.int .i64 a0_0,.int .i64 a0_1,.int .i64 a0_2,.int .i64 a0_3,.slice A0_4 l0_4.length c0_4,.int .i64 a0_5] 33 (0,0)) (aB_ BK103.out)):gb104≠gb103));clear BK103;clear HB;have BK103:=n0_;have HB:=n1_;have BK104:=n2_;have GW104:=n3_;have GE104:=n4_;have NB103_104:=n5_;have NB104_103:=n6_;clear n0_ n1_ n2_ n3_ n4_ n5_ n6_;clear hb hbox hg;have hnb25:=NB103_104.out;have hnc25:=NB104_103.out;have hcz26_0:w24.cell? ⟨gb103,0,none⟩=some (.int .i64 a0_0):=(zAB BK103.out 0).trans rfl;have hcz26_1:w24.cell? ⟨gb103,1,none⟩=some (.int .i64 a0_1):=(zAB BK103.out 1).trans rfl;have hcz26_2:w24.cell? ⟨gb103,2,none⟩=some (.int .i64 a0_2):=(zAB BK103.out 2).trans rfl;have hcz26_3:w24.cell? ⟨gb103,3,none⟩=some (.int .i64 a0_3):=(zAB BK103.out 3).trans rfl;have hcz26_4:w24.cell? ⟨gb103,4,none⟩=some (.slice A0_4 l0_4.length c0_4):=(zAB BK103.out 4).trans rfl;have hcz26_5:w24.cell? ⟨gb103,5,none⟩=some (.int .i64 a0_5):=(zAB BK103.out 5).trans rfl;have hfz26_0:=zAA BK103.out 0;have hfz26_1:=zAA BK103.out 1;have hfz26_2:=zAA BK103.out 2;have hfz26_3:=zAA BK103.out 3;have hfz26_4:=zAA BK103.out 4;have hfz26_5:=zAA BK103.out 5;have hcz27_0:w24.cell? ⟨gb104,0,none⟩=some (.int .i64 a1_0):=(zAB BK104.out 0).trans rfl;have hcz27_1:w24.cell? ⟨gb104,1,none⟩=some (.int .i64 a1_1):=(zAB BK104.out 1).trans rfl;have hcz27_2:w24.cell? ⟨gb104,2,none⟩=some (.int .i64 a1_2):=(zAB BK104.out 2).trans rfl;have hcz27_3:w24.cell? ⟨gb104,3,none⟩=some (.int .i64 a1_3):=(zAB BK104.out 3).trans rfl;have hcz27_4:w24.cell? ⟨gb104,4,none⟩=some (.slice A1_4 l1_4.length c1_4):=(zAB BK104.out 4).trans rfl;have hcz27_5:w24.cell? ⟨gb104,5,none⟩=some (.int .i64 a1_5):=(zAB BK104.out 5).trans rfl;have hfz27_0:=zAA BK104.out 0;have hfz27_1:=zAA BK104.out 1;have hfz27_2:=zAA BK104.out 2;have hfz27_3:=zAA BK104.out 3;have hfz27_4:=zAA BK104.out 4;have hfz27_5:=zAA BK104.out 5))
  go_ret
  exact ⟨by first|rfl|(simp [zAQ,zAR] <;> rfl)|(simp [*,zAQ,zAR] <;> rfl),aJ_ HB.out GE103.out GE104.out⟩
 rw [if_pos c4] at H
 have c4b0:(a0_1 == a1_1)=true:=beq_iff_eq.mpr c4
 have c4b1:(a0_1 != a1_1)=false:=bne_eq_false_iff_eq.mpr c4
 clear c4
 by_cases c5:a0_2=a1_2
 rotate_left
 ·rw [if_neg c5] at H
  have c5b0:(a0_2 == a1_2)=false:=beq_eq_false_iff_ne.mpr c5
  have c5b1:(a0_2 != a1_2)=true:=bne_iff_ne.mpr c5
  obtain rfl:=Option.some.inj H
  go_enter Tryd.func43,Tryd.ntmps43
  go_wp2_with (first|((with_reducible refine zAX (N:=2) rfl ?_);refine zAW ?hg (N:=2) ?hd (cs:=#[.int .i64 a0_0,.int .i64 a0_1,.int .i64 a0_2,.int .i64 a0_3,.slice A0_4 l0_4.length c0_4,.int .i64 a0_5]) (t:=33) ?hr ?_;(case hd=>rfl);(case hg=>rfl);(case hr=>first|(go_simp;done)|(go_simp;rfl));intro gb103 hg w18 hbox hb;have n0_:=aK_ (zAG (aH_ HB.out) hb);have n1_:=aK_ (hbox);have n2_:=aK_ ((by rw [hg];exact (zAE (aH_ HB.out)):w.heap.size≤gb103));have n3_:=aK_ ((by rw [hg];exact (zAE (aH_ HB.out)):w.heap.size≤gb103));clear HB;have HB:=n0_;have BK103:=n1_;have GW103:=n2_;have GE103:=n3_;clear n0_ n1_ n2_ n3_;clear hb hbox hg)|((with_reducible refine zAX (N:=3) rfl ?_);refine zAW ?hg (N:=3) ?hd (cs:=#[.int .i64 a1_0,.int .i64 a1_1,.int .i64 a1_2,.int .i64 a1_3,.slice A1_4 l1_4.length c1_4,.int .i64 a1_5]) (t:=33) ?hr ?_;(case hd=>rfl);(case hg=>rfl);(case hr=>first|(go_simp;done)|(go_simp;rfl));intro gb104 hg w19 hbox hb;have n0_:=aK_ (zAM (g:=gb103) (o:=.cells #[.int .i64 a0_0,.int .i64 a0_1,.int .i64 a0_2,.int .i64 a0_3,.slice A0_4 l0_4.length c0_4,.int .i64 a0_5] 33 (0,0)) (aB_ BK103.out) hb);have n1_:=aK_ (zAG (aI_ HB.out GE103.out) hb);have n2_:=aK_ (hbox);have n3_:=aK_ ((by rw [hg];exact (zAE (aI_ HB.out GE103.out)):w.heap.size≤gb104));have n4_:=aK_ ((by rw [hg];exact (zAE (aI_ HB.out GE103.out)):w.heap.size≤gb104));have n5_:=aK_ ((by rw [hg];exact Nat.ne_of_lt (blk_lt (g:=gb103) (o:=.cells #[.int .i64 a0_0,.int .i64 a0_1,.int .i64 a0_2,.int .i64 a0_3,.slice A0_4 l0_4.length c0_4,.int .i64 a0_5] 33 (0,0)) (aB_ BK103.out)):gb103≠gb104));have n6_:=aK_ ((by rw [hg];exact Nat.ne_of_gt (blk_lt (g:=gb103) (o:=.cells #[.int .i64 a0_0,.int .i64 a0_1,.int .i64 a0_2,.int .i64 a0_3,.slice A0_4 l0_4.length c0_4,.int .i64 a0_5] 33 (0,0)) (aB_ BK103.out)):gb104≠gb103));clear BK103;clear HB;have BK103:=n0_;have HB:=n1_;have BK104:=n2_;have GW104:=n3_;have GE104:=n4_;have NB103_104:=n5_;have NB104_103:=n6_;clear n0_ n1_ n2_ n3_ n4_ n5_ n6_;clear hb hbox hg;have hnb20:=NB103_104.out;have hnc20:=NB104_103.out;have hcz21_0:w19.cell? ⟨gb103,0,none⟩=some (.int .i64 a0_0):=(zAB BK103.out 0).trans rfl;have hcz21_1:w19.cell? ⟨gb103,1,none⟩=some (.int .i64 a0_1):=(zAB BK103.out 1).trans rfl;have hcz21_2:w19.cell? ⟨gb103,2,none⟩=some (.int .i64 a0_2):=(zAB BK103.out 2).trans rfl;have hcz21_3:w19.cell? ⟨gb103,3,none⟩=some (.int .i64 a0_3):=(zAB BK103.out 3).trans rfl;have hcz21_4:w19.cell? ⟨gb103,4,none⟩=some (.slice A0_4 l0_4.length c0_4):=(zAB BK103.out 4).trans rfl;have hcz21_5:w19.cell? ⟨gb103,5,none⟩=some (.int .i64 a0_5):=(zAB BK103.out 5).trans rfl;have hfz21_0:=zAA BK103.out 0;have hfz21_1:=zAA BK103.out 1;have hfz21_2:=zAA BK103.out 2;have hfz21_3:=zAA BK103.out 3;have hfz21_4:=zAA BK103.out 4;have hfz21_5:=zAA BK103.out 5;have hcz22_0:w19.cell? ⟨gb104,0,none⟩=some (.int .i64 a1_0):=(zAB BK104.out 0).trans rfl;have hcz22_1:w19.cell? ⟨gb104,1,none⟩=some (.int .i64 a1_1):=(zAB BK104.out 1).trans rfl;have hcz22_2:w19.cell? ⟨gb104,2,none⟩=some (.int .i64 a1_2):=(zAB BK104.out 2).trans rfl;have hcz22_3:w19.cell? ⟨gb104,3,none⟩=some (.int .i64 a1_3):=(zAB BK104.out 3).trans rfl;have hcz22_4:w19.cell? ⟨gb104,4,none⟩=some (.slice A1_4 l1_4.length c1_4):=(zAB BK104.out 4).trans rfl;have hcz22_5:w19.cell? ⟨gb104,5,none⟩=some (.int .i64 a1_5):=(zAB BK104.out 5).trans rfl;have hfz22_0:=zAA BK104.out 0;have hfz22_1:=zAA BK104.out 1;have hfz22_2:=zAA BK104.out 2;have hfz22_3:=zAA BK104.out 3;have hfz22_4:=zAA BK104.out 4;have hfz22_5:=zAA BK104.out 5))
  go_ret
  exact ⟨by first|rfl|(simp [zAQ,zAR] <;> rfl)|(simp [*,zAQ,zAR] <;> rfl),aJ_ HB.out GE103.out GE104.out⟩
 rw [if_pos c5] at H
 have c5b0:(a0_2 == a1_2)=true:=beq_iff_eq.mpr c5
 have c5b1:(a0_2 != a1_2)=false:=bne_eq_false_iff_eq.mpr c5
 clear c5
 by_cases c6:a0_3=a1_3
 rotate_left
 ·rw [if_neg c6] at H
  have c6b0:(a0_3 == a1_3)=false:=beq_eq_false_iff_ne.mpr c6
  have c6b1:(a0_3 != a1_3)=true:=bne_iff_ne.mpr c6
  obtain rfl:=Option.some.inj H
  go_enter Tryd.func43,Tryd.ntmps43
  go_wp2_with (first|((with_reducible refine zAX (N:=2) rfl ?_);refine zAW ?hg (N:=2) ?hd (cs:=#[.int .i64 a0_0,.int .i64 a0_1,.int .i64 a0_2,.int .i64 a0_3,.slice A0_4 l0_4.length c0_4,.int .i64 a0_5]) (t:=33) ?hr ?_;(case hd=>rfl);(case hg=>rfl);(case hr=>first|(go_simp;done)|(go_simp;rfl));intro gb103 hg w13 hbox hb;have n0_:=aK_ (zAG (aH_ HB.out) hb);have n1_:=aK_ (hbox);have n2_:=aK_ ((by rw [hg];exact (zAE (aH_ HB.out)):w.heap.size≤gb103));have n3_:=aK_ ((by rw [hg];exact (zAE (aH_ HB.out)):w.heap.size≤gb103));clear HB;have HB:=n0_;have BK103:=n1_;have GW103:=n2_;have GE103:=n3_;clear n0_ n1_ n2_ n3_;clear hb hbox hg)|((with_reducible refine zAX (N:=3) rfl ?_);refine zAW ?hg (N:=3) ?hd (cs:=#[.int .i64 a1_0,.int .i64 a1_1,.int .i64 a1_2,.int .i64 a1_3,.slice A1_4 l1_4.length c1_4,.int .i64 a1_5]) (t:=33) ?hr ?_;(case hd=>rfl);(case hg=>rfl);(case hr=>first|(go_simp;done)|(go_simp;rfl));intro gb104 hg w14 hbox hb;have n0_:=aK_ (zAM (g:=gb103) (o:=.cells #[.int .i64 a0_0,.int .i64 a0_1,.int .i64 a0_2,.int .i64 a0_3,.slice A0_4 l0_4.length c0_4,.int .i64 a0_5] 33 (0,0)) (aB_ BK103.out) hb);have n1_:=aK_ (zAG (aI_ HB.out GE103.out) hb);have n2_:=aK_ (hbox);have n3_:=aK_ ((by rw [hg];exact (zAE (aI_ HB.out GE103.out)):w.heap.size≤gb104));have n4_:=aK_ ((by rw [hg];exact (zAE (aI_ HB.out GE103.out)):w.heap.size≤gb104));have n5_:=aK_ ((by rw [hg];exact Nat.ne_of_lt (blk_lt (g:=gb103) (o:=.cells #[.int .i64 a0_0,.int .i64 a0_1,.int .i64 a0_2,.int .i64 a0_3,.slice A0_4 l0_4.length c0_4,.int .i64 a0_5] 33 (0,0)) (aB_ BK103.out)):gb103≠gb104));have n6_:=aK_ ((by rw [hg];exact Nat.ne_of_gt (blk_lt (g:=gb103) (o:=.cells #[.int .i64 a0_0,.int .i64 a0_1,.int .i64 a0_2,.int .i64 a0_3,.slice A0_4 l0_4.length c0_4,.int .i64 a0_5] 33 (0,0)) (aB_ BK103.out)):gb104≠gb103));clear BK103;clear HB;have BK103:=n0_;have HB:=n1_;have BK104:=n2_;have GW104:=n3_;have GE104:=n4_;have NB103_104:=n5_;have NB104_103:=n6_;clear n0_ n1_ n2_ n3_ n4_ n5_ n6_;clear hb hbox hg;have hnb15:=NB103_104.out;have hnc15:=NB104_103.out;have hcz16_0:w14.cell? ⟨gb103,0,none⟩=some (.int .i64 a0_0):=(zAB BK103.out 0).trans rfl;have hcz16_1:w14.cell? ⟨gb103,1,none⟩=some (.int .i64 a0_1):=(zAB BK103.out 1).trans rfl;have hcz16_2:w14.cell? ⟨gb103,2,none⟩=some (.int .i64 a0_2):=(zAB BK103.out 2).trans rfl;have hcz16_3:w14.cell? ⟨gb103,3,none⟩=some (.int .i64 a0_3):=(zAB BK103.out 3).trans rfl;have hcz16_4:w14.cell? ⟨gb103,4,none⟩=some (.slice A0_4 l0_4.length c0_4):=(zAB BK103.out 4).trans rfl;have hcz16_5:w14.cell? ⟨gb103,5,none⟩=some (.int .i64 a0_5):=(zAB BK103.out 5).trans rfl;have hfz16_0:=zAA BK103.out 0;have hfz16_1:=zAA BK103.out 1;have hfz16_2:=zAA BK103.out 2;have hfz16_3:=zAA BK103.out 3;have hfz16_4:=zAA BK103.out 4;have hfz16_5:=zAA BK103.out 5;have hcz17_0:w14.cell? ⟨gb104,0,none⟩=some (.int .i64 a1_0):=(zAB BK104.out 0).trans rfl;have hcz17_1:w14.cell? ⟨gb104,1,none⟩=some (.int .i64 a1_1):=(zAB BK104.out 1).trans rfl;have hcz17_2:w14.cell? ⟨gb104,2,none⟩=some (.int .i64 a1_2):=(zAB BK104.out 2).trans rfl;have hcz17_3:w14.cell? ⟨gb104,3,none⟩=some (.int .i64 a1_3):=(zAB BK104.out 3).trans rfl;have hcz17_4:w14.cell? ⟨gb104,4,none⟩=some (.slice A1_4 l1_4.length c1_4):=(zAB BK104.out 4).trans rfl;have hcz17_5:w14.cell? ⟨gb104,5,none⟩=some (.int .i64 a1_5):=(zAB BK104.out 5).trans rfl;have hfz17_0:=zAA BK104.out 0;have hfz17_1:=zAA BK104.out 1;have hfz17_2:=zAA BK104.out 2;have hfz17_3:=zAA BK104.out 3;have hfz17_4:=zAA BK104.out 4;have hfz17_5:=zAA BK104.out 5))
  go_ret
  exact ⟨by first|rfl|(simp [zAQ,zAR] <;> rfl)|(simp [*,zAQ,zAR] <;> rfl),aJ_ HB.out GE103.out GE104.out⟩
 rw [if_pos c6] at H
 have c6b0:(a0_3 == a1_3)=true:=beq_iff_eq.mpr c6
 have c6b1:(a0_3 != a1_3)=false:=bne_eq_false_iff_eq.mpr c6
 clear c6
 replace H:=Option.bind_eq_some_iff.mp H
 obtain ⟨t105,A70,H⟩:=H
 replace H:(some t105)=some r:=H
 have A7:=aK_ A70
 clear A70
 obtain rfl:=Option.some.inj H
 go_enter Tryd.func43,Tryd.ntmps43
 go_wp2_with (first|((with_reducible refine zAX (N:=2) rfl ?_);refine zAW ?hg (N:=2) ?hd (cs:=#[.int .i64 a0_0,.int .i64 a0_1,.int .i64 a0_2,.int .i64 a0_3,.slice A0_4 l0_4.length c0_4,.int .i64 a0_5]) (t:=33) ?hr ?_;(case hd=>rfl);(case hg=>rfl);(case hr=>first|(go_simp;done)|(go_simp;rfl));intro gb103 hg w8 hbox hb;have n0_:=aK_ (zAG (aH_ HB.out) hb);have n1_:=aK_ (hbox);have n2_:=aK_ ((by rw [hg];exact (zAE (aH_ HB.out)):w.heap.size≤gb103));have n3_:=aK_ ((by rw [hg];exact (zAE (aH_ HB.out)):w.heap.size≤gb103));clear HB;have HB:=n0_;have BK103:=n1_;have GW103:=n2_;have GE103:=n3_;clear n0_ n1_ n2_ n3_;clear hb hbox hg)|((with_reducible refine zAX (N:=3) rfl ?_);refine zAW ?hg (N:=3) ?hd (cs:=#[.int .i64 a1_0,.int .i64 a1_1,.int .i64 a1_2,.int .i64 a1_3,.slice A1_4 l1_4.length c1_4,.int .i64 a1_5]) (t:=33) ?hr ?_;(case hd=>rfl);(case hg=>rfl);(case hr=>first|(go_simp;done)|(go_simp;rfl));intro gb104 hg w9 hbox hb;have n0_:=aK_ (zAM (g:=gb103) (o:=.cells #[.int .i64 a0_0,.int .i64 a0_1,.int .i64 a0_2,.int .i64 a0_3,.slice A0_4 l0_4.length c0_4,.int .i64 a0_5] 33 (0,0)) (aB_ BK103.out) hb);have n1_:=aK_ (zAG (aI_ HB.out GE103.out) hb);have n2_:=aK_ (hbox);have n3_:=aK_ ((by rw [hg];exact (zAE (aI_ HB.out GE103.out)):w.heap.size≤gb104));have n4_:=aK_ ((by rw [hg];exact (zAE (aI_ HB.out GE103.out)):w.heap.size≤gb104));have n5_:=aK_ ((by rw [hg];exact Nat.ne_of_lt (blk_lt (g:=gb103) (o:=.cells #[.int .i64 a0_0,.int .i64 a0_1,.int .i64 a0_2,.int .i64 a0_3,.slice A0_4 l0_4.length c0_4,.int .i64 a0_5] 33 (0,0)) (aB_ BK103.out)):gb103≠gb104));have n6_:=aK_ ((by rw [hg];exact Nat.ne_of_gt (blk_lt (g:=gb103) (o:=.cells #[.int .i64 a0_0,.int .i64 a0_1,.int .i64 a0_2,.int .i64 a0_3,.slice A0_4 l0_4.length c0_4,.int .i64 a0_5] 33 (0,0)) (aB_ BK103.out)):gb104≠gb103));clear BK103;clear HB;have BK103:=n0_;have HB:=n1_;have BK104:=n2_;have GW104:=n3_;have GE104:=n4_;have NB103_104:=n5_;have NB104_103:=n6_;clear n0_ n1_ n2_ n3_ n4_ n5_ n6_;clear hb hbox hg;have hnb10:=NB103_104.out;have hnc10:=NB104_103.out;have hcz11_0:w9.cell? ⟨gb103,0,none⟩=some (.int .i64 a0_0):=(zAB BK103.out 0).trans rfl;have hcz11_1:w9.cell? ⟨gb103,1,none⟩=some (.int .i64 a0_1):=(zAB BK103.out 1).trans rfl;have hcz11_2:w9.cell? ⟨gb103,2,none⟩=some (.int .i64 a0_2):=(zAB BK103.out 2).trans rfl;have hcz11_3:w9.cell? ⟨gb103,3,none⟩=some (.int .i64 a0_3):=(zAB BK103.out 3).trans rfl;have hcz11_4:w9.cell? ⟨gb103,4,none⟩=some (.slice A0_4 l0_4.length c0_4):=(zAB BK103.out 4).trans rfl;have hcz11_5:w9.cell? ⟨gb103,5,none⟩=some (.int .i64 a0_5):=(zAB BK103.out 5).trans rfl;have hfz11_0:=zAA BK103.out 0;have hfz11_1:=zAA BK103.out 1;have hfz11_2:=zAA BK103.out 2;have hfz11_3:=zAA BK103.out 3;have hfz11_4:=zAA BK103.out 4;have hfz11_5:=zAA BK103.out 5;have hcz12_0:w9.cell? ⟨gb104,0,none⟩=some (.int .i64 a1_0):=(zAB BK104.out 0).trans rfl;have hcz12_1:w9.cell? ⟨gb104,1,none⟩=some (.int .i64 a1_1):=(zAB BK104.out 1).trans rfl;have hcz12_2:w9.cell? ⟨gb104,2,none⟩=some (.int .i64 a1_2):=(zAB BK104.out 2).trans rfl;have hcz12_3:w9.cell? ⟨gb104,3,none⟩=some (.int .i64 a1_3):=(zAB BK104.out 3).trans rfl;have hcz12_4:w9.cell? ⟨gb104,4,none⟩=some (.slice A1_4 l1_4.length c1_4):=(zAB BK104.out 4).trans rfl;have hcz12_5:w9.cell? ⟨gb104,5,none⟩=some (.int .i64 a1_5):=(zAB BK104.out 5).trans rfl;have hfz12_0:=zAA BK104.out 0;have hfz12_1:=zAA BK104.out 1;have hfz12_2:=zAA BK104.out 2;have hfz12_3:=zAA BK104.out 3;have hfz12_4:=zAA BK104.out 4;have hfz12_5:=zAA BK104.out 5)|(go_at_call 44;(with_reducible refine (zAc.calls k _ _ l0_4 _ _ l1_4 t105 _ ?side1 ?side2 ?side3 ?side4 A7.out).mono ?_);(case side1=>repeat (first|exact (Kd.C_below HR0_4.out HB.out)|(with_reducible refine Kd.C_alloc ?_ _)|(with_reducible refine Kd.C_drewN ?_ _)|(with_reducible refine Kd.C_drew ?_)));(case side2=>exact HC0_4.out);(case side3=>repeat (first|exact (Kd.C_below HR1_4.out HB.out)|(with_reducible refine Kd.C_alloc ?_ _)|(with_reducible refine Kd.C_drewN ?_ _)|(with_reducible refine Kd.C_drew ?_)));(case side4=>exact HC1_4.out);rintro e w' ⟨rfl,⟨nd,rfl⟩⟩))
 go_ret
 exact ⟨by first|rfl|(simp [zAQ,zAR] <;> rfl)|(simp [*,zAQ,zAR] <;> rfl),aJ_ HB.out GE103.out GE104.out⟩
end Go.Proofs.YthbnigjckjkmnaaDoor.S

namespace Go.Proofs.YthbnigjckjkmnaaDoor.S
open Go.RowKit Go.Proofs.YthbnigjckjkmnaaDoorW.PrintWords Go.Proofs.YthbnigjckjkmnaaDoorW.PrintLast Go.Proofs.YthbnigjckjkmnaaDoorW.PrintMore
attribute [local go_sem] max2_int min2_int max_two min_two max_three min_three max_four min_four
attribute [local go_sem high] eqA47
def slices_Equal_Dim.l0:Nat→List (S47)→List (S47)→Int→Int→Option (Bool)
 |0,_,_,_,_=>none
 |k+1,x0,x1,x12,x13=>if x13<x12 then (if 0≤x13 then (if x13<(x0.length:Int) then (if x13<(x1.length:Int) then (if (!((((rd_T47 x0 x13).f0).toList) == (((rd_T47 x1 x13).f0).toList)) ||(!(((rd_T47 x0 x13).f1) == ((rd_T47 x1 x13).f1))))=true then (some false) else (slices_Equal_Dim.l0 k x0 x1 x12 (wrap64 (x13+1)))) else (none)) else (none)) else (none)) else (some true)
def slices_Equal_Dim.f (k:Nat) (l0:List (S47)) (l1:List (S47)):Option (Bool):=if (l0.length:Int)=(l1.length:Int) then (slices_Equal_Dim.l0 k l0 l1 (l0.length:Int) 0) else (some false)
theorem slices_Equal_Dim.mono_l:∀ k,(∀ y0 y1 y2 y3,LeO (slices_Equal_Dim.l0 k y0 y1 y2 y3) (slices_Equal_Dim.l0 (k+1) y0 y1 y2 y3))
 |0=>fun _ _ _ _ r h=>by simp [slices_Equal_Dim.l0] at h
 |k+1=>by
  have ih0:=slices_Equal_Dim.mono_l k
  ·intro y0 y1 y2 y3
   unfold slices_Equal_Dim.l0
   repeat' first
   |(with_reducible exact ih0 _ _ _ _)
   |(with_reducible exact LeO.refl _)
   |(with_reducible exact LeO.none _)
   |(with_reducible refine LeO.ite ?_ ?_)
   |(with_reducible refine LeO.bind ?_ (fun _=>?_))
   |exact ih0 _ _ _ _
   |exact LeO.none _
   |refine LeO.ite ?_ ?_
   |refine LeO.bind ?_ (fun _=>?_)
theorem slices_Equal_Dim.mono:∀ a0 a1 k,LeO (slices_Equal_Dim.f k a0 a1) (slices_Equal_Dim.f (k+1) a0 a1):=by
 intro a0 a1 k
 have ih0:=slices_Equal_Dim.mono_l k
 unfold slices_Equal_Dim.f
 repeat' first
   |(with_reducible exact ih0 _ _ _ _)
   |(with_reducible exact LeO.refl _)
   |(with_reducible exact LeO.none _)
   |(with_reducible refine LeO.ite ?_ ?_)
   |(with_reducible refine LeO.bind ?_ (fun _=>?_))
   |exact ih0 _ _ _ _
   |exact LeO.none _
   |refine LeO.ite ?_ ?_
   |refine LeO.bind ?_ (fun _=>?_)
set_option maxHeartbeats 8000000 in
set_option maxRecDepth 100000 in
theorem slices_Equal_Dim.calls (k:Nat) (A0:Option Addr) (c0:Nat) (l0:List (S47)) (A1:Option Addr) (c1:Nat) (l1:List (S47)) (r:Bool) (w:World) (hr0:Kd.C k47 w A0 l0.length l0) (hc0:l0.length≤c0) (hr1:Kd.C k47 w A1 l1.length l1) (hc1:l1.length≤c1) (h:slices_Equal_Dim.f k l0 l1=some r) :
  Calls Tryd.prog 45 #[.slice A0 l0.length c0,.slice A1 l1.length c1] w fun e w'=>e = .returned (.bool r)∧Drawn0 w w':=by
 have hu47:=Tryd.underlying47
 have HR0:=aK_ hr0
 have HC0:=aK_ hc0
 clear hr0 hc0
 have HR1:=aK_ hr1
 have HC1:=aK_ hc1
 clear hr1 hc1
 have H:(if (l0.length:Int)=(l1.length:Int) then (slices_Equal_Dim.l0 k l0 l1 (l0.length:Int) 0) else (some false))=some r:=h
 clear h
 by_cases c3:(l0.length:Int)=(l1.length:Int)
 rotate_left
 ·rw [if_neg c3] at H
  have c3b0:((l0.length:Int) == (l1.length:Int))=false:=beq_eq_false_iff_ne.mpr c3
  have c3b1:((l0.length:Int) != (l1.length:Int))=true:=bne_iff_ne.mpr c3
  have c3b2:(l0.length == l1.length)=false:=by first|simpa using c3|(simp at c3 ⊢;omega)
  obtain rfl:=Option.some.inj H
  go_enter Tryd.func45,Tryd.ntmps45
  go_wp2
  repeat (go_quiet (fail);try go_wp2)
  go_ret
  exact ⟨by first|rfl|(simp;done)|(simp [*];done),by repeat (first|exact Drawn0.refl _|apply Drawn0.step)⟩
 rw [if_pos c3] at H
 have c3b0:((l0.length:Int) == (l1.length:Int))=true:=beq_iff_eq.mpr c3
 have c3b1:((l0.length:Int) != (l1.length:Int))=false:=bne_eq_false_iff_eq.mpr c3
 have c3b2:(l0.length == l1.length)=true:=by first|simpa using c3|(simp at c3 ⊢;omega)
 clear c3
 have H':=aK_ H
 clear H
 go_enter Tryd.func45,Tryd.ntmps45
 go_wp2
 repeat (go_quiet (fail);try go_wp2)
 (try simp only [Act.put,List.setIfInBounds_toArray,List.set_cons_zero,List.set_cons_succ])
 go_loopg [13] k (fun kq v13 w'=>∃ (x13_1:Int),v13 = .int .i64 x13_1∧zAJ (slices_Equal_Dim.l0 kq l0 l1 (l0.length:Int) x13_1=some r)∧zAJ (kq≤k)∧Drawn0 w w')
 case atStart=>exact ⟨(0),aS2_,H',⟨Nat.le_refl _⟩,by repeat (first|exact Drawn0.refl _|apply Drawn0.step)⟩
 clear H'
 try clear c1
 try clear p2
 try clear c3
 try clear c3b0
 try clear c3b1
 try clear c3b2
 obtain ⟨x13_1,rfl,HA,HK1,⟨m1,rfl⟩⟩:=hrel
 cases gk with
 |zero=>exact absurd HA.out (by simp [slices_Equal_Dim.l0])
 |succ k1=>?_
 have H:=HA.out
 clear HA
 simp only [slices_Equal_Dim.l0] at H
 by_cases c4:x13_1<(l0.length:Int)
 rotate_left
 ·rw [if_neg c4] at H
  have c4b0:decide (x13_1<(l0.length:Int))=false:=decide_eq_false c4
  clear c4
  obtain rfl:=Option.some.inj H
  go_wp2
  repeat (go_quiet (fail);try go_wp2)
  go_ret
  exact ⟨by first|rfl|(simp;done)|(simp [*];done),by repeat (first|exact Drawn0.refl _|apply Drawn0.step)⟩
 rw [if_pos c4] at H
 have c4b0:decide (x13_1<(l0.length:Int))=true:=decide_eq_true c4
 clear c4
 have c5:=yes_ H
 rw [if_pos c5] at H
 have c5b0:decide (0≤x13_1)=true:=decide_eq_true c5
 clear c5
 have c6:=yes_ H
 rw [if_pos c6] at H
 have c6b0:decide (x13_1<(l0.length:Int))=true:=decide_eq_true c6
 clear c6
 have c7:=yes_ H
 rw [if_pos c7] at H
 have c7b0:decide (x13_1<(l1.length:Int))=true:=decide_eq_true c7
 clear c7
 by_cases c8:(!((((rd_T47 l0 x13_1).f0).toList) == (((rd_T47 l1 x13_1).f0).toList)) ||(!(((rd_T47 l0 x13_1).f1) == ((rd_T47 l1 x13_1).f1))))=true
 ·rw [if_pos c8] at H
  have c8b0:(!((((rd_T47 l0 x13_1).f0).toList) == (((rd_T47 l1 x13_1).f0).toList)) ||(!(((rd_T47 l0 x13_1).f1) == ((rd_T47 l1 x13_1).f1))))=true:=c8
  clear c8
  obtain rfl:=Option.some.inj H
  have p123:0≤(x13_1:Int):=aD_
  have q123:x13_1<(l0.length:Int):=aD_
  obtain ⟨ad123,e123,hx123_0,hx123_1⟩:=at_T47 HR0.out x13_1 p123 q123
  cases e123
  replace p123:=eq_true p123
  replace q123:=eq_true q123
  have p124:0≤(x13_1:Int):=aD_
  have q124:x13_1<(l1.length:Int):=aD_
  obtain ⟨ad124,e124,hx124_0,hx124_1⟩:=at_T47 HR1.out x13_1 p124 q124
  cases e124
  replace p124:=eq_true p124
  replace q124:=eq_true q124
  go_wp2
  repeat (go_quiet (fail);try go_wp2)
  go_ret
  exact ⟨by first|rfl|(simp;done)|(simp [*];done),by repeat (first|exact Drawn0.refl _|apply Drawn0.step)⟩
 rw [if_neg c8] at H
 have c8b0:(!((((rd_T47 l0 x13_1).f0).toList) == (((rd_T47 l1 x13_1).f0).toList)) ||(!(((rd_T47 l0 x13_1).f1) == ((rd_T47 l1 x13_1).f1))))=false:=by simpa using c8
 clear c8
 have H':=aK_ H
 clear H
 have p123:0≤(x13_1:Int):=aD_
 have q123:x13_1<(l0.length:Int):=aD_
 obtain ⟨ad123,e123,hx123_0,hx123_1⟩:=at_T47 HR0.out x13_1 p123 q123
 cases e123
 replace p123:=eq_true p123
 replace q123:=eq_true q123
 have p124:0≤(x13_1:Int):=aD_
 have q124:x13_1<(l1.length:Int):=aD_
 obtain ⟨ad124,e124,hx124_0,hx124_1⟩:=at_T47 HR1.out x13_1 p124 q124
 cases e124
 replace p124:=eq_true p124
 replace q124:=eq_true q124
 go_wp2
 repeat (go_quiet (fail);try go_wp2)
 go_roundg k1
 case measure=>have:=HK1.out;omega
 case rel=>exact ⟨(wrap64 (x13_1+1)),aS2_,H',⟨by have:=HK1.out;omega⟩,by repeat (first|exact Drawn0.refl _|apply Drawn0.step)⟩
end Go.Proofs.YthbnigjckjkmnaaDoor.S

namespace Go.Proofs.YthbnigjckjkmnaaDoor.S
open Go.RowKit Go.Proofs.YthbnigjckjkmnaaDoorW.PrintWords
def eqNL (k : Nat) : List (S33) → List (S33) → Option Bool
  | a :: xs, b :: ys => (tree_Same_1.f k a.f0 a.f1 a.f2 a.f3 a.f4 a.f5 b.f0 b.f1 b.f2 b.f3 b.f4 b.f5).bind fun r => if r = true then eqNL k xs ys else some false
  | _, _ => some true
def eqNF (k : Nat) (xs ys : List (S33)) : Option Bool := if xs.length = ys.length then eqNL k xs ys else some false
def tree_Same.f (k : Nat) (a0_0 : ByteArray) (l0_1 : List (S47)) (a0_2 : Int) (l0_3 : List (S33)) (a1_0 : ByteArray) (l1_1 : List (S47)) (a1_2 : Int) (l1_3 : List (S33)) : Option Bool :=
  if (a0_0.toList == a1_0.toList) = true then (if a0_2 = a1_2 then ((slices_Equal_Dim.f k l0_1 l1_1).bind fun b => if b = true then eqNF k l0_3 l1_3 else some false) else some false) else some false
theorem eqNL_nil (k : Nat) (ys : List (S33)) : eqNL k [] ys = some true := by simp [eqNL]
theorem eqNL_mono (k : Nat) : ∀ xs ys, LeO (eqNL k xs ys) (eqNL (k + 1) xs ys)
  | [], _ => LeO.refl _
  | _ :: _, [] => LeO.refl _
  | a :: xs, b :: ys => LeO.bind (tree_Same_1.mono _ _ _ _ _ _ _ _ _ _ _ _ _) (fun r => LeO.ite (eqNL_mono k xs ys) (LeO.refl _))
theorem tree_Same.mono : ∀ a0 a1 a2 a3 a4 a5 a6 a7 k, LeO (tree_Same.f k a0 a1 a2 a3 a4 a5 a6 a7) (tree_Same.f (k + 1) a0 a1 a2 a3 a4 a5 a6 a7) := by
  intro a0 a1 a2 a3 a4 a5 a6 a7 k
  unfold tree_Same.f
  refine LeO.ite (LeO.ite (LeO.bind (slices_Equal_Dim.mono _ _ _) (fun b => LeO.ite ?_ (LeO.refl _))) (LeO.refl _)) (LeO.refl _)
  unfold eqNF
  exact LeO.ite (eqNL_mono k _ _) (LeO.refl _)
theorem eqNL_drop (k : Nat) (xs ys : List (S33)) (i : Nat) (h : i < xs.length) (h' : i < ys.length) (r : Bool) (hr : eqNL k (xs.drop i) (ys.drop i) = some r) :
    ∃ q, tree_Same_1.f k (zAD xs i).f0 (zAD xs i).f1 (zAD xs i).f2 (zAD xs i).f3 (zAD xs i).f4 (zAD xs i).f5 (zAD ys i).f0 (zAD ys i).f1 (zAD ys i).f2 (zAD ys i).f3 (zAD ys i).f4 (zAD ys i).f5 = some q ∧
      ((q = true ∧ eqNL k (xs.drop (i + 1)) (ys.drop (i + 1)) = some r) ∨ (q = false ∧ r = false)) := by
  have e1 : zAD xs i = xs[i] := by simp [zAD, List.getD_eq_getElem?_getD, List.getElem?_eq_getElem h]
  have e2 : zAD ys i = ys[i] := by simp [zAD, List.getD_eq_getElem?_getD, List.getElem?_eq_getElem h']
  rw [e1, e2]
  rw [List.drop_eq_getElem_cons h, List.drop_eq_getElem_cons h', eqNL] at hr
  obtain ⟨q, h1, h2⟩ := Option.bind_eq_some_iff.1 hr
  refine ⟨q, h1, ?_⟩
  cases q with
  | true => rw [if_pos rfl] at h2; exact .inl ⟨rfl, h2⟩
  | false => rw [if_neg (by decide)] at h2; exact .inr ⟨rfl, (Option.some.inj h2).symm⟩
set_option maxHeartbeats 8000000 in
set_option maxRecDepth 100000 in
theorem equal_func (k : Nat) (A0 : Option Addr) (c0 : Nat) (l0 : List (S33)) (A1 : Option Addr) (c1 : Nat) (l1 : List (S33)) (r : Bool) (w : World) (hr0 : Kd.C k33 w A0 l0.length l0) (hc0 : l0.length ≤ c0) (hr1 : Kd.C k33 w A1 l1.length l1) (hc1 : l1.length ≤ c1) (h : eqNF k l0 l1 = some r) :
    Calls Tryd.prog 46 #[.slice A0 l0.length c0, .slice A1 l1.length c1, .func (.func 43) #[] #[]] w fun e w' => e = .returned (.bool r) ∧ Below w.heap.size w w' := by
  have hm := hr0.2.1
  have HR0 := aK_ hr0
  have HR1 := aK_ hr1
  clear hr0 hr1 hc0 hc1
  unfold eqNF at h
  by_cases hl : l0.length = l1.length
  · rw [if_pos hl] at h
    have H := aK_ h
    clear h
    have hl2 : (l0.length != l1.length) = false := by simp [hl]
    have hl3 : ((l0.length : Int) != (l1.length : Int)) = false := by simp [hl]
    have HL := aK_ hl
    clear hl
    go_enter Tryd.func46, Tryd.ntmps46
    go_wp2
    go_loopg [17] l0.length (fun kq v17 w' => ∃ i : Nat, v17 = .int .i64 (i : Int) ∧ zAJ (i ≤ l0.length) ∧ zAJ (kq = l0.length - i) ∧ zAJ (eqNL k (l0.drop i) (l1.drop i) = some r) ∧ zAJ (Below w.heap.size w w'))
    case atStart => exact ⟨0, rfl, ⟨Nat.zero_le _⟩, ⟨rfl⟩, ⟨by simpa using H.out⟩, ⟨Below.refl _ _⟩⟩
    case round =>
      clear H
      obtain ⟨i, rfl, HI, HK, HE, HB⟩ := hrel
      by_cases hlt : i < l0.length
      · have h0 : (0 : Int) ≤ (i : Int) := by omega
        have h1 : (i : Int) < (l0.length : Int) := by omega
        have h1' : (i : Int) < (l1.length : Int) := by have := HL.out; omega
        obtain ⟨ad, A4, c4, e1, hx0, hx1, hx2, hx3, hx4, hx5, hq1, hq2⟩ := at_T33 (Kd.C_below HR0.out HB.out) (i : Int) h0 h1
        obtain ⟨ad', A4', c4', e1', hy0, hy1, hy2, hy3, hy4, hy5, hp1, hp2⟩ := at_T33 (Kd.C_below HR1.out HB.out) (i : Int) h0 h1'
        simp only [Int.toNat_natCast] at hx0 hx1 hx2 hx3 hx4 hx5 hy0 hy1 hy2 hy3 hy4 hy5
        obtain ⟨q, hq, hcase⟩ := eqNL_drop k l0 l1 i hlt (by have := HL.out; omega) r HE.out
        generalize hF : (zAD l0 (i : Int)) = F at *
        generalize hF' : (zAD l1 (i : Int)) = F' at *
        have hz0 := fun o => zAO (zAF (Below.refl _ _) o) hy0
        have hz1 := fun o => zAO (zAF (Below.refl _ _) o) hy1
        have hz2 := fun o => zAO (zAF (Below.refl _ _) o) hy2
        have hz3 := fun o => zAO (zAF (Below.refl _ _) o) hy3
        have hz4 := fun o => zAO (zAF (Below.refl _ _) o) hy4
        have hz5 := fun o => zAO (zAF (Below.refl _ _) o) hy5
        clear hy0 hy1 hy2 hy3 hy4 hy5
        have HQ := aK_ hq
        have HQ1 := aK_ hq1
        have HQ2 := aK_ hq2
        have HP1 := aK_ hp1
        have HP2 := aK_ hp2
        clear hq hq1 hq2 hp1 hp2
        cases e1
        cases e1'
        have hsame : ∀ o o', Calls Tryd.prog 43 #[.agg #[.int .i64 F.f0, .int .i64 F.f1, .int .i64 F.f2, .int .i64 F.f3, .slice A4 F.f4.length c4, .int .i64 F.f5], .agg #[.int .i64 F'.f0, .int .i64 F'.f1, .int .i64 F'.f2, .int .i64 F'.f3, .slice A4' F'.f4.length c4', .int .i64 F'.f5]] ((wr.alloc o).alloc o') (fun e w' => e = .returned (.bool q) ∧ Below ((wr.alloc o).alloc o').heap.size ((wr.alloc o).alloc o') w') := fun o o' =>
          tree_Same_1.calls k F.f0 F.f1 F.f2 F.f3 A4 c4 F.f4 F.f5 F'.f0 F'.f1 F'.f2 F'.f3 A4' c4' F'.f4 F'.f5 q _ (Kd.C_below HQ2.out (zAF (zAF (Below.refl _ _) _) _)) HQ1.out (Kd.C_below HP2.out (zAF (zAF (Below.refl _ _) _) _)) HP1.out HQ.out
        have HS := aK_ hsame
        clear hsame
        rcases hcase with ⟨rfl, hz⟩ | ⟨rfl, rfl⟩
        · have HZ := aK_ hz
          clear hz
          go_wp2_with (first | (go_at_call 43; refine (HS.out _ _).mono ?_; rintro e w' ⟨rfl, hb2⟩; have HB2 := aK_ hb2; clear hb2))
          go_roundg (l0.length - (i + 1))
          case measure => have := HK.out; omega
          case rel => exact ⟨i + 1, by first | (simp; done) | (congr 1; unfold wrap64; omega), ⟨hlt⟩, ⟨rfl⟩, ⟨HZ.out⟩, ⟨below_then (zAF (zAF HB.out _) _) (zAF (zAF HB.out _) _).size HB2.out⟩⟩
        · go_wp2_with (first | (go_at_call 43; refine (HS.out _ _).mono ?_; rintro e w' ⟨rfl, hb2⟩; have HB2 := aK_ hb2; clear hb2))
          go_ret
          exact ⟨rfl, below_then (zAF (zAF HB.out _) _) (zAF (zAF HB.out _) _).size HB2.out⟩
      · have hi : i = l0.length := by have := HI.out; omega
        subst hi
        have hz := HE.out
        rw [List.drop_length, eqNL_nil] at hz
        obtain rfl : true = r := Option.some.inj hz
        clear hz
        go_wp2
        go_ret
        exact ⟨rfl, HB.out⟩
  · rw [if_neg hl] at h
    obtain rfl := Option.some.inj h
    have hl2 : (l0.length != l1.length) = true := by simp [hl]
    have hl3 : ((l0.length : Int) != (l1.length : Int)) = true := by simp; omega
    go_enter Tryd.func46, Tryd.ntmps46
    go_wp2
    all_goals first | (exfalso; omega) | skip
    go_ret
    exact ⟨rfl, Below.refl _ _⟩
set_option maxHeartbeats 8000000 in
set_option maxRecDepth 100000 in
theorem tree_Same.calls (k : Nat) (a0_0 : ByteArray) (A0_1 : Option Addr) (c0_1 : Nat) (l0_1 : List (S47)) (a0_2 : Int) (A0_3 : Option Addr) (c0_3 : Nat) (l0_3 : List (S33)) (a1_0 : ByteArray) (A1_1 : Option Addr) (c1_1 : Nat) (l1_1 : List (S47)) (a1_2 : Int) (A1_3 : Option Addr) (c1_3 : Nat) (l1_3 : List (S33)) (r : Bool) (w : World) (hr0_1 : Kd.C k47 w A0_1 l0_1.length l0_1) (hc0_1 : l0_1.length ≤ c0_1) (hr0_3 : Kd.C k33 w A0_3 l0_3.length l0_3) (hc0_3 : l0_3.length ≤ c0_3) (hr1_1 : Kd.C k47 w A1_1 l1_1.length l1_1) (hc1_1 : l1_1.length ≤ c1_1) (hr1_3 : Kd.C k33 w A1_3 l1_3.length l1_3) (hc1_3 : l1_3.length ≤ c1_3) (h : tree_Same.f k a0_0 l0_1 a0_2 l0_3 a1_0 l1_1 a1_2 l1_3 = some r) :
    Calls Tryd.prog 18 #[.agg #[.string a0_0, .slice A0_1 l0_1.length c0_1, .int .i64 a0_2, .slice A0_3 l0_3.length c0_3], .agg #[.string a1_0, .slice A1_1 l1_1.length c1_1, .int .i64 a1_2, .slice A1_3 l1_3.length c1_3]] w fun e w' => e = .returned (.bool r) ∧ Below w.heap.size w w' := by
  have hbel : ∀ o o' n, Below w.heap.size w (((w.alloc o).alloc o').drewN n) := fun o o' n => zAK (zAF (zAF (Below.refl _ _) _) _) _
  have HBEL := aK_ hbel
  have hD : ∀ o o' b, slices_Equal_Dim.f k l0_1 l1_1 = some b → Calls Tryd.prog 45 #[.slice A0_1 l0_1.length c0_1, .slice A1_1 l1_1.length c1_1] ((w.alloc o).alloc o') (fun e w' => e = .returned (.bool b) ∧ Drawn0 ((w.alloc o).alloc o') w') := fun o o' b hb =>
    slices_Equal_Dim.calls k A0_1 c0_1 l0_1 A1_1 c1_1 l1_1 b _ (Kd.C_below hr0_1 (zAF (zAF (Below.refl _ _) _) _)) hc0_1 (Kd.C_below hr1_1 (zAF (zAF (Below.refl _ _) _) _)) hc1_1 hb
  have hN : ∀ o o' n b, eqNF k l0_3 l1_3 = some b → Calls Tryd.prog 46 #[.slice A0_3 l0_3.length c0_3, .slice A1_3 l1_3.length c1_3, .func (.func 43) #[] #[]] (((w.alloc o).alloc o').drewN n) (fun e w' => e = .returned (.bool b) ∧ Below (((w.alloc o).alloc o').drewN n).heap.size (((w.alloc o).alloc o').drewN n) w') := fun o o' n b hb =>
    equal_func k A0_3 c0_3 l0_3 A1_3 c1_3 l1_3 b _ (Kd.C_below hr0_3 (hbel o o' n)) hc0_3 (Kd.C_below hr1_3 (hbel o o' n)) hc1_3 hb
  have HD := aK_ hD
  have HN := aK_ hN
  clear hD hN hbel hr0_1 hc0_1 hr0_3 hc0_3 hr1_1 hc1_1 hr1_3 hc1_3
  unfold tree_Same.f at h
  by_cases h1 : (a0_0.toList == a1_0.toList) = true
  · rw [if_pos h1] at h
    by_cases h2 : a0_2 = a1_2
    · rw [if_pos h2] at h
      have h2b : (a0_2 == a1_2) = true := beq_iff_eq.mpr h2
      clear h2
      obtain ⟨b, hb, h⟩ := Option.bind_eq_some_iff.1 h
      have HB := aK_ hb
      clear hb
      cases b with
      | true =>
        rw [if_pos rfl] at h
        have H := aK_ h
        clear h
        go_enter Tryd.func18, Tryd.ntmps18
        go_wp2_with (first | (go_at_call 45; refine (HD.out _ _ _ HB.out).mono ?_; rintro e w' ⟨rfl, nd, rfl⟩) | (go_at_call 46; refine (HN.out _ _ nd _ H.out).mono ?_; rintro e w' ⟨rfl, hb2⟩; have HB2 := aK_ hb2; clear hb2))
        go_ret
        exact ⟨rfl, below_then (HBEL.out _ _ _) (HBEL.out _ _ _).size HB2.out⟩
      | false =>
        rw [if_neg (by decide)] at h
        obtain rfl := Option.some.inj h
        clear h
        go_enter Tryd.func18, Tryd.ntmps18
        go_wp2_with (first | (go_at_call 45; refine (HD.out _ _ _ HB.out).mono ?_; rintro e w' ⟨rfl, nd, rfl⟩))
        go_ret
        exact ⟨rfl, HBEL.out _ _ _⟩
    · rw [if_neg h2] at h
      obtain rfl := Option.some.inj h
      have h2b : (a0_2 == a1_2) = false := beq_eq_false_iff_ne.mpr h2
      clear h2 h
      go_enter Tryd.func18, Tryd.ntmps18
      go_wp2
      go_ret
      exact ⟨rfl, HBEL.out _ _ 0⟩
  · rw [if_neg h1] at h
    obtain rfl := Option.some.inj h
    have h1b : (a0_0.toList == a1_0.toList) = false := by simpa using h1
    clear h1 h
    go_enter Tryd.func18, Tryd.ntmps18
    go_wp2
    go_ret
    exact ⟨rfl, HBEL.out _ _ 0⟩
end Go.Proofs.YthbnigjckjkmnaaDoor.S
