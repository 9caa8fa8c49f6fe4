/- What the proof needs, part 6 of 20. For every input the law TreeScales returns true, and each argument reads behind the call as it read before; the listed variable is tied to the program's text. -/
import Derived.Test.YthbnigjckjkmnaaDoorBTreeScales5
set_option linter.unusedVariables false
set_option linter.unusedSimpArgs false
namespace Go.Proofs.YthbnigjckjkmnaaDoor.S
open Go.RowKit Go.Proofs.YthbnigjckjkmnaaDoorW.PrintWords Go.Proofs.YthbnigjckjkmnaaDoorW.PrintLast Go.Proofs.YthbnigjckjkmnaaDoorW.PrintMore
attribute [local go_sem] max2_int min2_int max_two min_two max_three min_three max_four min_four
mutual
def zAT.j0:Nat→Bool→ByteArray→List (S47)→Int→List (S33)→Option (Int)
 |0,_,_,_,_,_=>none
 |k+1,x18,x195000,x195001,x195002,x195003=>if x18=true then (some 100) else (zAT.l0 k 0 x195000 x195001 x195002 x195003)
def zAT.l0:Nat→Int→ByteArray→List (S47)→Int→List (S33)→Option (Int)
 |0,_,_,_,_,_=>none
 |k+1,x3,x195000,x195001,x195002,x195003=>if x3<(x195001.length:Int) then (if 0≤x3 then ((zAN.f k ((rd_T47 x195001 x3).f0)).bind fun t197=>(if t197=true then (zAT.l1 k x3 0 x195000 x195001 x195002 x195003) else (some 61))) else (none)) else (if x195002<0 then (some 50) else (if x195002 > 4 then (some 50) else (some 0)))
def zAT.l1:Nat→Int→Int→ByteArray→List (S47)→Int→List (S33)→Option (Int)
 |0,_,_,_,_,_,_=>none
 |k+1,x3,x4,x195000,x195001,x195002,x195003=>if x4<x3 then (if 0≤x4 then (if x4<(x195001.length:Int) then (if 0≤x3 then (if x3<(x195001.length:Int) then (if ((rd_T47 x195001 x4).f0).toList=((rd_T47 x195001 x3).f0).toList then (some 61) else (zAT.l1 k x3 (wrap64 (x4+1)) x195000 x195001 x195002 x195003)) else (none)) else (none)) else (none)) else (none)) else (if 0≤x3 then (if x3<(x195001.length:Int) then (if ((rd_T47 x195001 x3).f1)<1 then (some 50) else (if ((rd_T47 x195001 x3).f1) > 1000000000000 then (some 50) else (zAT.l0 k (wrap64 (x3+1)) x195000 x195001 x195002 x195003))) else (none)) else (none))
end
def zAT.f (k:Nat) (a0_0:ByteArray) (l0_1:List (S47)) (a0_2:Int) (l0_3:List (S33)):Option (Int):=(zAN.f k a0_0).bind fun t195=>(if t195=true then (if (l0_1.length:Int)=0 then (zAT.j0 k true a0_0 l0_1 a0_2 l0_3) else (zAT.j0 k (decide ((l0_1.length:Int) > 4)) a0_0 l0_1 a0_2 l0_3)) else (some 61))
theorem zAT.mono_l:∀ k,(∀ y0 y1 y2 y3 y4,LeO (zAT.j0 k y0 y1 y2 y3 y4) (zAT.j0 (k+1) y0 y1 y2 y3 y4))∧(∀ y0 y1 y2 y3 y4,LeO (zAT.l0 k y0 y1 y2 y3 y4) (zAT.l0 (k+1) y0 y1 y2 y3 y4))∧(∀ y0 y1 y2 y3 y4 y5,LeO (zAT.l1 k y0 y1 y2 y3 y4 y5) (zAT.l1 (k+1) y0 y1 y2 y3 y4 y5))
 |0=>⟨fun _ _ _ _ _ r h=>by simp [zAT.j0] at h,fun _ _ _ _ _ r h=>by simp [zAT.l0] at h,fun _ _ _ _ _ _ r h=>by simp [zAT.l1] at h⟩
 |k+1=>by
  obtain ⟨ih0,ih1,ih2⟩:=zAT.mono_l k
  refine ⟨?_,?_,?_⟩
  ·intro y0 y1 y2 y3 y4
   unfold zAT.j0
   repeat' first
   |(with_reducible exact ih0 _ _ _ _ _)
   |(with_reducible exact ih1 _ _ _ _ _)
   |(with_reducible exact ih2 _ _ _ _ _ _)
   |(with_reducible exact zAN.mono _ _)
   |(with_reducible exact LeO.refl _)
   |(with_reducible exact LeO.none _)
   |(with_reducible refine LeO.ite ?_ ?_)
   |(with_reducible refine LeO.bind ?_ (fun _=>?_))
   |exact ih0 _ _ _ _ _
   |exact ih1 _ _ _ _ _
   |exact ih2 _ _ _ _ _ _
   |exact zAN.mono _ _
   |exact LeO.none _
   |refine LeO.ite ?_ ?_
   |refine LeO.bind ?_ (fun _=>?_)
  ·intro y0 y1 y2 y3 y4
   unfold zAT.l0
   repeat' first
   |(with_reducible exact ih0 _ _ _ _ _)
   |(with_reducible exact ih1 _ _ _ _ _)
   |(with_reducible exact ih2 _ _ _ _ _ _)
   |(with_reducible exact zAN.mono _ _)
   |(with_reducible exact LeO.refl _)
   |(with_reducible exact LeO.none _)
   |(with_reducible refine LeO.ite ?_ ?_)
   |(with_reducible refine LeO.bind ?_ (fun _=>?_))
   |exact ih0 _ _ _ _ _
   |exact ih1 _ _ _ _ _
   |exact ih2 _ _ _ _ _ _
   |exact zAN.mono _ _
   |exact LeO.none _
   |refine LeO.ite ?_ ?_
   |refine LeO.bind ?_ (fun _=>?_)
  ·intro y0 y1 y2 y3 y4 y5
   unfold zAT.l1
   repeat' first
   |(with_reducible exact ih0 _ _ _ _ _)
   |(with_reducible exact ih1 _ _ _ _ _)
   |(with_reducible exact ih2 _ _ _ _ _ _)
   |(with_reducible exact zAN.mono _ _)
   |(with_reducible exact LeO.refl _)
   |(with_reducible exact LeO.none _)
   |(with_reducible refine LeO.ite ?_ ?_)
   |(with_reducible refine LeO.bind ?_ (fun _=>?_))
   |exact ih0 _ _ _ _ _
   |exact ih1 _ _ _ _ _
   |exact ih2 _ _ _ _ _ _
   |exact zAN.mono _ _
   |exact LeO.none _
   |refine LeO.ite ?_ ?_
   |refine LeO.bind ?_ (fun _=>?_)
theorem zAT.mono:∀ a0 a1 a2 a3 k,LeO (zAT.f k a0 a1 a2 a3) (zAT.f (k+1) a0 a1 a2 a3):=by
 intro a0 a1 a2 a3 k
 obtain ⟨ih0,ih1,ih2⟩:=zAT.mono_l k
 unfold zAT.f
 repeat' first
   |(with_reducible exact ih0 _ _ _ _ _)
   |(with_reducible exact ih1 _ _ _ _ _)
   |(with_reducible exact ih2 _ _ _ _ _ _)
   |(with_reducible exact zAN.mono _ _)
   |(with_reducible exact LeO.refl _)
   |(with_reducible exact LeO.none _)
   |(with_reducible refine LeO.ite ?_ ?_)
   |(with_reducible refine LeO.bind ?_ (fun _=>?_))
   |exact ih0 _ _ _ _ _
   |exact ih1 _ _ _ _ _
   |exact ih2 _ _ _ _ _ _
   |exact zAN.mono _ _
   |exact LeO.none _
   |refine LeO.ite ?_ ?_
   |refine LeO.bind ?_ (fun _=>?_)
set_option maxHeartbeats 8000000 in
set_option maxRecDepth 100000 in
theorem zAT.calls (k:Nat) (a0_0:ByteArray) (A0_1:Option Addr) (c0_1:Nat) (l0_1:List (S47)) (a0_2:Int) (A0_3:Option Addr) (c0_3:Nat) (l0_3:List (S33)) (r:Int) (w:World) (hr0_1:Kd.C k47 w A0_1 l0_1.length l0_1) (hc0_1:l0_1.length≤c0_1) (hr0_3:Kd.C k33 w A0_3 l0_3.length l0_3) (hc0_3:l0_3.length≤c0_3) (h:zAT.f k a0_0 l0_1 a0_2 l0_3=some r) :
  Calls Tryd.prog 40 #[.agg #[.string a0_0,.slice A0_1 l0_1.length c0_1,.int .i64 a0_2,.slice A0_3 l0_3.length c0_3]] w fun e w'=>e = .returned (.int .i64 r)∧Below w.heap.size w w':=by
 have hu25:=Tryd.underlying25
 have HR0_1:=aK_ hr0_1
 have HC0_1:=aK_ hc0_1
 clear hr0_1 hc0_1
 have HR0_3:=aK_ hr0_3
 have HC0_3:=aK_ hc0_3
 clear hr0_3 hc0_3
 have HB:=aK_ (Below.refl w.heap.size w)
 have H:((zAN.f k a0_0).bind fun t195=>(if t195=true then (if (l0_1.length:Int)=0 then (zAT.j0 k true a0_0 l0_1 a0_2 l0_3) else (zAT.j0 k (decide ((l0_1.length:Int) > 4)) a0_0 l0_1 a0_2 l0_3)) else (some 61)))=some r:=h
 clear h
 replace H:=Option.bind_eq_some_iff.mp H
 obtain ⟨t195,A20,H⟩:=H
 replace H:(if t195=true then (if (l0_1.length:Int)=0 then (zAT.j0 k true a0_0 l0_1 a0_2 l0_3) else (zAT.j0 k (decide ((l0_1.length:Int) > 4)) a0_0 l0_1 a0_2 l0_3)) else (some 61))=some r:=H
 have A2:=aK_ A20
 clear A20
 by_cases c3:t195=true
 ·subst c3
  have H1:(if (l0_1.length:Int)=0 then (zAT.j0 k true a0_0 l0_1 a0_2 l0_3) else (zAT.j0 k (decide ((l0_1.length:Int) > 4)) a0_0 l0_1 a0_2 l0_3))=some r:=by rw [if_pos rfl] at H;exact H
  clear H
  have H:=H1
  clear H1
  have HC4:=aK_ H
  clear H
  go_enter Tryd.func40,Tryd.ntmps40
  go_upto_region 3 with (first|((with_reducible refine zAf (N:=1) rfl ?_);(try (refine gate_guard (by rfl) ?_;dsimp only));refine zAc ?hg (N:=1) ?hd (cs:=#[.string a0_0,.slice A0_1 l0_1.length c0_1,.int .i64 a0_2,.slice A0_3 l0_3.length c0_3]) (t:=25) ?hr ?_;(case hd=>rfl);(case hg=>rfl);(case hr=>first|(go_simp;done)|(go_simp;rfl));intro gb194 hg w5 hbox hb;have n0_:=aK_ (zAL (by repeat (first|(with_reducible first|exact HB.out|apply zAB|apply zAA|apply zAC)|exact HB.out)) hb);have n1_:=aK_ (hbox);have n2_:=aK_ ((by rw [hg];exact (zAK (by repeat (first|(with_reducible first|exact HB.out|apply zAB|apply zAA|apply zAC)|exact HB.out))):w.heap.size≤gb194));have n3_:=aK_ ((by rw [hg];exact (zAK (by repeat (first|(with_reducible first|exact HB.out|apply zAB|apply zAA|apply zAC)|exact HB.out))):w.heap.size≤gb194));clear HB;have HB:=n0_;have BK194:=n1_;have GW194:=n2_;have GE194:=n3_;clear n0_ n1_ n2_ n3_;clear hb hbox hg;have hcz6_0:w5.cell? ⟨gb194,0,none⟩=some (.string a0_0):=(zAE BK194.out 0).trans rfl;have hcz6_1:w5.cell? ⟨gb194,1,none⟩=some (.slice A0_1 l0_1.length c0_1):=(zAE BK194.out 1).trans rfl;have hcz6_2:w5.cell? ⟨gb194,2,none⟩=some (.int .i64 a0_2):=(zAE BK194.out 2).trans rfl;have hcz6_3:w5.cell? ⟨gb194,3,none⟩=some (.slice A0_3 l0_3.length c0_3):=(zAE BK194.out 3).trans rfl;have hfz6_0:=zAD BK194.out 0;have hfz6_1:=zAD BK194.out 1;have hfz6_2:=zAD BK194.out 2;have hfz6_3:=zAD BK194.out 3)|(go_at_call 59;(with_reducible refine (zAN.calls k a0_0 true _ A2.out).mono ?_);rintro e w7 ⟨rfl,hb⟩;have n0_:=aK_ (zAX (g:=gb194) (o:=.cells #[.string a0_0,.slice A0_1 l0_1.length c0_1,.int .i64 a0_2,.slice A0_3 l0_3.length c0_3] 25 (0,0)) (by (with_reducible repeat (first|refine zAG ?_ _|refine zAI ?_|refine zAH ?_ _));exact BK194.out) hb);have n1_:=aK_ (zAL (by repeat (first|(with_reducible first|exact HB.out|apply zAB|apply zAA|apply zAC|refine zAF ?_ GE194.out)|exact HB.out)) hb);clear BK194;clear HB;have BK194:=n0_;have HB:=n1_;clear n0_ n1_;(try clear hb);(try clear hb2);(try clear hk);(try clear hi)))
  repeat (go_quiet (first|((with_reducible refine zAf (N:=1) rfl ?_);(try (refine gate_guard (by rfl) ?_;dsimp only));refine zAc ?hg (N:=1) ?hd (cs:=#[.string a0_0,.slice A0_1 l0_1.length c0_1,.int .i64 a0_2,.slice A0_3 l0_3.length c0_3]) (t:=25) ?hr ?_;(case hd=>rfl);(case hg=>rfl);(case hr=>first|(go_simp;done)|(go_simp;rfl));intro gb194 hg w5 hbox hb;have n0_:=aK_ (zAL (by repeat (first|(with_reducible first|exact HB.out|apply zAB|apply zAA|apply zAC)|exact HB.out)) hb);have n1_:=aK_ (hbox);have n2_:=aK_ ((by rw [hg];exact (zAK (by repeat (first|(with_reducible first|exact HB.out|apply zAB|apply zAA|apply zAC)|exact HB.out))):w.heap.size≤gb194));have n3_:=aK_ ((by rw [hg];exact (zAK (by repeat (first|(with_reducible first|exact HB.out|apply zAB|apply zAA|apply zAC)|exact HB.out))):w.heap.size≤gb194));clear HB;have HB:=n0_;have BK194:=n1_;have GW194:=n2_;have GE194:=n3_;clear n0_ n1_ n2_ n3_;clear hb hbox hg;have hcz6_0:w5.cell? ⟨gb194,0,none⟩=some (.string a0_0):=(zAE BK194.out 0).trans rfl;have hcz6_1:w5.cell? ⟨gb194,1,none⟩=some (.slice A0_1 l0_1.length c0_1):=(zAE BK194.out 1).trans rfl;have hcz6_2:w5.cell? ⟨gb194,2,none⟩=some (.int .i64 a0_2):=(zAE BK194.out 2).trans rfl;have hcz6_3:w5.cell? ⟨gb194,3,none⟩=some (.slice A0_3 l0_3.length c0_3):=(zAE BK194.out 3).trans rfl;have hfz6_0:=zAD BK194.out 0;have hfz6_1:=zAD BK194.out 1;have hfz6_2:=zAD BK194.out 2;have hfz6_3:=zAD BK194.out 3)|(go_at_call 59;(with_reducible refine (zAN.calls k a0_0 true _ A2.out).mono ?_);rintro e w7 ⟨rfl,hb⟩;have n0_:=aK_ (zAX (g:=gb194) (o:=.cells #[.string a0_0,.slice A0_1 l0_1.length c0_1,.int .i64 a0_2,.slice A0_3 l0_3.length c0_3] 25 (0,0)) (by (with_reducible repeat (first|refine zAG ?_ _|refine zAI ?_|refine zAH ?_ _));exact BK194.out) hb);have n1_:=aK_ (zAL (by repeat (first|(with_reducible first|exact HB.out|apply zAB|apply zAA|apply zAC|refine zAF ?_ GE194.out)|exact HB.out)) hb);clear BK194;clear HB;have BK194:=n0_;have HB:=n1_;clear n0_ n1_;(try clear hb);(try clear hb2);(try clear hk);(try clear hi)));go_upto_region 3 with (first|((with_reducible refine zAf (N:=1) rfl ?_);(try (refine gate_guard (by rfl) ?_;dsimp only));refine zAc ?hg (N:=1) ?hd (cs:=#[.string a0_0,.slice A0_1 l0_1.length c0_1,.int .i64 a0_2,.slice A0_3 l0_3.length c0_3]) (t:=25) ?hr ?_;(case hd=>rfl);(case hg=>rfl);(case hr=>first|(go_simp;done)|(go_simp;rfl));intro gb194 hg w5 hbox hb;have n0_:=aK_ (zAL (by repeat (first|(with_reducible first|exact HB.out|apply zAB|apply zAA|apply zAC)|exact HB.out)) hb);have n1_:=aK_ (hbox);have n2_:=aK_ ((by rw [hg];exact (zAK (by repeat (first|(with_reducible first|exact HB.out|apply zAB|apply zAA|apply zAC)|exact HB.out))):w.heap.size≤gb194));have n3_:=aK_ ((by rw [hg];exact (zAK (by repeat (first|(with_reducible first|exact HB.out|apply zAB|apply zAA|apply zAC)|exact HB.out))):w.heap.size≤gb194));clear HB;have HB:=n0_;have BK194:=n1_;have GW194:=n2_;have GE194:=n3_;clear n0_ n1_ n2_ n3_;clear hb hbox hg;have hcz6_0:w5.cell? ⟨gb194,0,none⟩=some (.string a0_0):=(zAE BK194.out 0).trans rfl;have hcz6_1:w5.cell? ⟨gb194,1,none⟩=some (.slice A0_1 l0_1.length c0_1):=(zAE BK194.out 1).trans rfl;have hcz6_2:w5.cell? ⟨gb194,2,none⟩=some (.int .i64 a0_2):=(zAE BK194.out 2).trans rfl;have hcz6_3:w5.cell? ⟨gb194,3,none⟩=some (.slice A0_3 l0_3.length c0_3):=(zAE BK194.out 3).trans rfl;have hfz6_0:=zAD BK194.out 0;have hfz6_1:=zAD BK194.out 1;have hfz6_2:=zAD BK194.out 2;have hfz6_3:=zAD BK194.out 3)|(go_at_call 59;(with_reducible refine (zAN.calls k a0_0 true _ A2.out).mono ?_);rintro e w7 ⟨rfl,hb⟩;have n0_:=aK_ (zAX (g:=gb194) (o:=.cells #[.string a0_0,.slice A0_1 l0_1.length c0_1,.int .i64 a0_2,.slice A0_3 l0_3.length c0_3] 25 (0,0)) (by (with_reducible repeat (first|refine zAG ?_ _|refine zAI ?_|refine zAH ?_ _));exact BK194.out) hb);have n1_:=aK_ (zAL (by repeat (first|(with_reducible first|exact HB.out|apply zAB|apply zAA|apply zAC|refine zAF ?_ GE194.out)|exact HB.out)) hb);clear BK194;clear HB;have BK194:=n0_;have HB:=n1_;clear n0_ n1_;(try clear hb);(try clear hb2);(try clear hk);(try clear hi))))
  (try simp only [Act.put,List.setIfInBounds_toArray,List.set_cons_zero,List.set_cons_succ])
  go_cut [18] (fun v18 wc=>∃ (kq:Nat) (x18_3:Bool),v18 = .bool x18_3∧zAa (zAT.j0 kq x18_3 a0_0 l0_1 a0_2 l0_3=some r)∧zAa (kq≤k)∧zAa (wc.heap[gb194]?=some (.cells #[.string a0_0,(.slice A0_1 l0_1.length c0_1),.int .i64 a0_2,(.slice A0_3 l0_3.length c0_3)] 25 (0,0)))∧zAa (Below w.heap.size w wc))
  case first =>
   have H:=HC4.out
   clear HC4
   by_cases c8:(l0_1.length:Int)=0
   ·rw [if_pos c8] at H
    have c8b0:((l0_1.length:Int) == 0)=true:=beq_iff_eq.mpr c8
    have c8b1:((l0_1.length:Int) != 0)=false:=bne_eq_false_iff_eq.mpr c8
    clear c8
    (first|rw [c8b0]|(simp only [i64_w,i32_w];rw [c8b0])|skip)
    have H':=aK_ H
    clear H
    have hcz9_0:w7.cell? ⟨gb194,0,none⟩=some (.string a0_0):=(zAE BK194.out 0).trans rfl
    have hcz9_1:w7.cell? ⟨gb194,1,none⟩=some (.slice A0_1 l0_1.length c0_1):=(zAE BK194.out 1).trans rfl
    have hcz9_2:w7.cell? ⟨gb194,2,none⟩=some (.int .i64 a0_2):=(zAE BK194.out 2).trans rfl
    have hcz9_3:w7.cell? ⟨gb194,3,none⟩=some (.slice A0_3 l0_3.length c0_3):=(zAE BK194.out 3).trans rfl
    have hfz9_0:=zAD BK194.out 0
    have hfz9_1:=zAD BK194.out 1
    have hfz9_2:=zAD BK194.out 2
    have hfz9_3:=zAD BK194.out 3
    go_wp2
    repeat (go_quiet (fail);try go_wp2)
    go_meet
    case rel=>exact ⟨_,(true),(by first|rfl|(simp;done)|(simp [*];done)),H',⟨by first|omega|exact Nat.le_refl _⟩,⟨by (with_reducible repeat (first|refine zAG ?_ _|refine zAI ?_|refine zAH ?_ _));exact BK194.out⟩,⟨by repeat (first|(with_reducible first|exact HB.out|apply zAB|apply zAA|apply zAC|refine zAF ?_ GE194.out)|exact HB.out)⟩⟩
   ·rw [if_neg c8] at H
    have c8b0:((l0_1.length:Int) == 0)=false:=beq_eq_false_iff_ne.mpr c8
    have c8b1:((l0_1.length:Int) != 0)=true:=bne_iff_ne.mpr c8
    have c8b2 : ¬ (l0_1=[]):=fun h_=>c8 (by rw [h_];rfl)
    (first|rw [c8b0]|(simp only [i64_w,i32_w];rw [c8b0])|skip)
    have H':=aK_ H
    clear H
    have hcz10_0:w7.cell? ⟨gb194,0,none⟩=some (.string a0_0):=(zAE BK194.out 0).trans rfl
    have hcz10_1:w7.cell? ⟨gb194,1,none⟩=some (.slice A0_1 l0_1.length c0_1):=(zAE BK194.out 1).trans rfl
    have hcz10_2:w7.cell? ⟨gb194,2,none⟩=some (.int .i64 a0_2):=(zAE BK194.out 2).trans rfl
    have hcz10_3:w7.cell? ⟨gb194,3,none⟩=some (.slice A0_3 l0_3.length c0_3):=(zAE BK194.out 3).trans rfl
    have hfz10_0:=zAD BK194.out 0
    have hfz10_1:=zAD BK194.out 1
    have hfz10_2:=zAD BK194.out 2
    have hfz10_3:=zAD BK194.out 3
    go_wp2
    repeat (go_quiet (fail);try go_wp2)
    go_meet
    case rel=>exact ⟨_,(decide ((l0_1.length:Int) > 4)),(by first|rfl|(simp;done)|(simp [*];done)),H',⟨by first|omega|exact Nat.le_refl _⟩,⟨by (with_reducible repeat (first|refine zAG ?_ _|refine zAI ?_|refine zAH ?_ _));exact BK194.out⟩,⟨by repeat (first|(with_reducible first|exact HB.out|apply zAB|apply zAA|apply zAC|refine zAF ?_ GE194.out)|exact HB.out)⟩⟩
  case rest =>
   clear HC4
   try clear p2
   try clear c3
   try clear c4
   try clear c8
   try clear c8b0
   try clear c8b1
   try clear c8b2
   try clear hcz10_0
   try clear hcz10_1
   try clear hcz10_2
   try clear hcz10_3
   try clear hcz6_0
   try clear hcz6_1
   try clear hcz6_2
   try clear hcz6_3
   try clear hcz9_0
   try clear hcz9_1
   try clear hcz9_2
   try clear hcz9_3
   try clear hfz10_0
   try clear hfz10_1
   try clear hfz10_2
   try clear hfz10_3
   try clear hfz6_0
   try clear hfz6_1
   try clear hfz6_2
   try clear hfz6_3
   try clear hfz9_0
   try clear hfz9_1
   try clear hfz9_2
   try clear hfz9_3
   obtain ⟨kq,x18_3,rfl,HA,HJ3,BK194,HB⟩:=hcut
   cases kq with
   |zero=>exact absurd HA.out (by simp [zAT.j0])
   |succ kj3 =>
    have H:=HA.out
    clear HA
    simp only [zAT.j0] at H
    by_cases c11:x18_3=true
    ·subst c11
     have H1:(some 100)=some r:=by rw [if_pos rfl] at H;exact H
     clear H
     have H:=H1
     clear H1
     obtain rfl:=Option.some.inj H
     go_wp2
     repeat (go_quiet (fail);try go_wp2)
     go_ret
     exact ⟨by first|rfl|(simp [zAQ,zAP] <;> rfl)|(simp [*,zAQ,zAP] <;> rfl),by repeat (first|(with_reducible first|exact HB.out|apply zAB|apply zAA|apply zAC|refine zAF ?_ GE194.out)|exact HB.out)⟩
    ·replace c11:=Bool.eq_false_iff.mpr c11
     subst c11
     have H1:(zAT.l0 kj3 0 a0_0 l0_1 a0_2 l0_3)=some r:=by rw [if_neg (show ¬ (false=true) by decide)] at H;exact H
     clear H
     have H:=H1
     clear H1
     have H':=aK_ H
     clear H
     go_wp2
     repeat (go_quiet (fail);try go_wp2)
     (try simp only [Act.put,List.setIfInBounds_toArray,List.set_cons_zero,List.set_cons_succ])
     go_loopg [3] kj3 (fun kq v3 w'=>∃ (x3_2:Int),v3 = .int .i64 x3_2∧zAa (zAT.l0 kq x3_2 a0_0 l0_1 a0_2 l0_3=some r)∧zAa (kq≤kj3)∧zAa (w'.heap[gb194]?=some (.cells #[.string a0_0,(.slice A0_1 l0_1.length c0_1),.int .i64 a0_2,(.slice A0_3 l0_3.length c0_3)] 25 (0,0)))∧zAa (Below w.heap.size w w'))
     case atStart=>exact ⟨(0),(by first|rfl|(simp;done)|(simp [*];done)),H',⟨Nat.le_refl _⟩,⟨by (with_reducible repeat (first|refine zAG ?_ _|refine zAI ?_|refine zAH ?_ _));exact BK194.out⟩,⟨by repeat (first|(with_reducible first|exact HB.out|apply zAB|apply zAA|apply zAC|refine zAF ?_ GE194.out)|exact HB.out)⟩⟩
     case round =>
      clear H'
      try clear c1
      try clear p2
      try clear c3
      try clear c4
      try clear c8
      try clear c8b0
      try clear c8b1
      try clear c8b2
      try clear c11
      try clear hcz10_0
      try clear hcz10_1
      try clear hcz10_2
      try clear hcz10_3
      try clear hcz6_0
      try clear hcz6_1
      try clear hcz6_2
      try clear hcz6_3
      try clear hcz9_0
      try clear hcz9_1
      try clear hcz9_2
      try clear hcz9_3
      try clear hfz10_0
      try clear hfz10_1
      try clear hfz10_2
      try clear hfz10_3
      try clear hfz6_0
      try clear hfz6_1
      try clear hfz6_2
      try clear hfz6_3
      try clear hfz9_0
      try clear hfz9_1
      try clear hfz9_2
      try clear hfz9_3
      try clear p2
      obtain ⟨x3_2,rfl,HA,HK2,BK194,HB⟩:=hrel
      cases gk with
      |zero=>exact absurd HA.out (by simp [zAT.l0])
      |succ k2 =>
       have H:=HA.out
       clear HA
       simp only [zAT.l0] at H
       by_cases c12:x3_2<(l0_1.length:Int)
       ·rw [if_pos c12] at H
        have c12b0:decide (x3_2<(l0_1.length:Int))=true:=decide_eq_true c12
        clear c12
        by_cases c13:0≤x3_2
        ·rw [if_pos c13] at H
         have c13b0:decide (0≤x3_2)=true:=decide_eq_true c13
         clear c13
         replace H:=Option.bind_eq_some_iff.mp H
         obtain ⟨t197,A140,H⟩:=H
         replace H:(if t197=true then (zAT.l1 k2 x3_2 0 a0_0 l0_1 a0_2 l0_3) else (some 61))=some r:=H
         have A14:=aK_ A140
         clear A140
         by_cases c15:t197=true
         ·subst c15
          have H1:(zAT.l1 k2 x3_2 0 a0_0 l0_1 a0_2 l0_3)=some r:=by rw [if_pos rfl] at H;exact H
          clear H
          have H:=H1
          clear H1
          have H':=aK_ H
          clear H
          have hcz16_0:wr.cell? ⟨gb194,0,none⟩=some (.string a0_0):=(zAE BK194.out 0).trans rfl
          have hcz16_1:wr.cell? ⟨gb194,1,none⟩=some (.slice A0_1 l0_1.length c0_1):=(zAE BK194.out 1).trans rfl
          have hcz16_2:wr.cell? ⟨gb194,2,none⟩=some (.int .i64 a0_2):=(zAE BK194.out 2).trans rfl
          have hcz16_3:wr.cell? ⟨gb194,3,none⟩=some (.slice A0_3 l0_3.length c0_3):=(zAE BK194.out 3).trans rfl
          have hfz16_0:=zAD BK194.out 0
          have hfz16_1:=zAD BK194.out 1
          have hfz16_2:=zAD BK194.out 2
          have hfz16_3:=zAD BK194.out 3
          have p196:0≤(x3_2:Int):=of_decide_eq_true (by first|(with_reducible assumption)|assumption)
          have q196:x3_2<(l0_1.length:Int):=of_decide_eq_true (by first|(with_reducible assumption)|assumption)
          obtain ⟨ad196,e196,hx196_0,hx196_1⟩:=at_T47 HR0_1.out x3_2 p196 q196
          cases e196
          replace hx196_0:=(HB.out.cell (World.block_lt_of_cell? w _ hx196_0)).trans hx196_0
          replace hx196_1:=(HB.out.cell (World.block_lt_of_cell? w _ hx196_1)).trans hx196_1
          replace p196:=eq_true p196
          replace q196:=eq_true q196
          go_wp2_with (first|(go_at_call 59;(with_reducible refine (zAN.calls k2 ((rd_T47 l0_1 x3_2).f0) true _ A14.out).mono ?_);rintro e w17 ⟨rfl,hb⟩;have n0_:=aK_ (zAX (g:=gb194) (o:=.cells #[.string a0_0,.slice (some ad196) l0_1.length c0_1,.int .i64 a0_2,.slice A0_3 l0_3.length c0_3] 25 (0,0)) (by (with_reducible repeat (first|refine zAG ?_ _|refine zAI ?_|refine zAH ?_ _));exact BK194.out) hb);have n1_:=aK_ (zAL (by repeat (first|(with_reducible first|exact HB.out|apply zAB|apply zAA|apply zAC|refine zAF ?_ GE194.out)|exact HB.out)) hb);clear BK194;clear HB;have BK194:=n0_;have HB:=n1_;clear n0_ n1_;(try clear hb);(try clear hb2);(try clear hk);(try clear hi)))
          repeat (go_quiet (first|(go_at_call 59;(with_reducible refine (zAN.calls k2 ((rd_T47 l0_1 x3_2).f0) true _ A14.out).mono ?_);rintro e w17 ⟨rfl,hb⟩;have n0_:=aK_ (zAX (g:=gb194) (o:=.cells #[.string a0_0,.slice (some ad196) l0_1.length c0_1,.int .i64 a0_2,.slice A0_3 l0_3.length c0_3] 25 (0,0)) (by (with_reducible repeat (first|refine zAG ?_ _|refine zAI ?_|refine zAH ?_ _));exact BK194.out) hb);have n1_:=aK_ (zAL (by repeat (first|(with_reducible first|exact HB.out|apply zAB|apply zAA|apply zAC|refine zAF ?_ GE194.out)|exact HB.out)) hb);clear BK194;clear HB;have BK194:=n0_;have HB:=n1_;clear n0_ n1_;(try clear hb);(try clear hb2);(try clear hk);(try clear hi)));try go_wp2_with (first|(go_at_call 59;(with_reducible refine (zAN.calls k2 ((rd_T47 l0_1 x3_2).f0) true _ A14.out).mono ?_);rintro e w17 ⟨rfl,hb⟩;have n0_:=aK_ (zAX (g:=gb194) (o:=.cells #[.string a0_0,.slice (some ad196) l0_1.length c0_1,.int .i64 a0_2,.slice A0_3 l0_3.length c0_3] 25 (0,0)) (by (with_reducible repeat (first|refine zAG ?_ _|refine zAI ?_|refine zAH ?_ _));exact BK194.out) hb);have n1_:=aK_ (zAL (by repeat (first|(with_reducible first|exact HB.out|apply zAB|apply zAA|apply zAC|refine zAF ?_ GE194.out)|exact HB.out)) hb);clear BK194;clear HB;have BK194:=n0_;have HB:=n1_;clear n0_ n1_;(try clear hb);(try clear hb2);(try clear hk);(try clear hi))))
          (try simp only [Act.put,List.setIfInBounds_toArray,List.set_cons_zero,List.set_cons_succ])
          go_loopg [4] k2 (fun kq v4 w'=>∃ (x4_3:Int),v4 = .int .i64 x4_3∧zAa (zAT.l1 kq x3_2 x4_3 a0_0 l0_1 a0_2 l0_3=some r)∧zAa (kq≤k2)∧zAa (w'.heap[gb194]?=some (.cells #[.string a0_0,(.slice (some ad196) l0_1.length c0_1),.int .i64 a0_2,(.slice A0_3 l0_3.length c0_3)] 25 (0,0)))∧zAa (Below w.heap.size w w'))
          case atStart=>exact ⟨(0),(by first|rfl|(simp;done)|(simp [*];done)),H',⟨Nat.le_refl _⟩,⟨by (with_reducible repeat (first|refine zAG ?_ _|refine zAI ?_|refine zAH ?_ _));exact BK194.out⟩,⟨by repeat (first|(with_reducible first|exact HB.out|apply zAB|apply zAA|apply zAC|refine zAF ?_ GE194.out)|exact HB.out)⟩⟩
          case round =>
           clear H'
           try clear c1
           try clear p1
           try clear q1
           try clear hx1
           try clear p2
           try clear c3
           try clear c4
           try clear c8
           try clear c8b0
           try clear c8b1
           try clear c8b2
           try clear c11
           try clear c12
           try clear c12b0
           try clear c13
           try clear c13b0
           try clear c15
           try clear hcz10_0
           try clear hcz10_1
           try clear hcz10_2
           try clear hcz10_3
           try clear hcz16_0
           try clear hcz16_1
           try clear hcz16_2
           try clear hcz16_3
           try clear hcz6_0
           try clear hcz6_1
           try clear hcz6_2
           try clear hcz6_3
           try clear hcz9_0
           try clear hcz9_1
           try clear hcz9_2
           try clear hcz9_3
           try clear hfz10_0
           try clear hfz10_1
           try clear hfz10_2
           try clear hfz10_3
           try clear hfz16_0
           try clear hfz16_1
           try clear hfz16_2
           try clear hfz16_3
           try clear hfz6_0
           try clear hfz6_1
           try clear hfz6_2
           try clear hfz6_3
           try clear hfz9_0
           try clear hfz9_1
           try clear hfz9_2
           try clear hfz9_3
           try clear hx196_0
           try clear hx196_1
           try clear p196
           try clear p2
           try clear q196
           obtain ⟨x4_3,rfl,HA,HK3,BK194,HB⟩:=hrel
           cases gk with
           |zero=>exact absurd HA.out (by simp [zAT.l1])
           |succ k3 =>
            have H:=HA.out
            clear HA
            simp only [zAT.l1] at H
            by_cases c18:x4_3<x3_2
            ·rw [if_pos c18] at H
             have c18b0:decide (x4_3<x3_2)=true:=decide_eq_true c18
             clear c18
             by_cases c19:0≤x4_3
             ·rw [if_pos c19] at H
              have c19b0:decide (0≤x4_3)=true:=decide_eq_true c19
              clear c19
              by_cases c20:x4_3<(l0_1.length:Int)
              ·rw [if_pos c20] at H
               have c20b0:decide (x4_3<(l0_1.length:Int))=true:=decide_eq_true c20
               clear c20
               by_cases c21:0≤x3_2
               ·rw [if_pos c21] at H
                have c21b0:decide (0≤x3_2)=true:=decide_eq_true c21
                clear c21
                by_cases c22:x3_2<(l0_1.length:Int)
                ·rw [if_pos c22] at H
                 have c22b0:decide (x3_2<(l0_1.length:Int))=true:=decide_eq_true c22
                 clear c22
                 by_cases c23:((rd_T47 l0_1 x4_3).f0).toList=((rd_T47 l0_1 x3_2).f0).toList
                 ·rw [if_pos c23] at H
                  have c23b0:(((rd_T47 l0_1 x4_3).f0).toList == ((rd_T47 l0_1 x3_2).f0).toList)=true:=beq_iff_eq.mpr c23
                  have c23b1:(((rd_T47 l0_1 x4_3).f0).toList != ((rd_T47 l0_1 x3_2).f0).toList)=false:=bne_eq_false_iff_eq.mpr c23
                  clear c23
                  obtain rfl:=Option.some.inj H
                  have hcz24_0:wr.cell? ⟨gb194,0,none⟩=some (.string a0_0):=(zAE BK194.out 0).trans rfl
                  have hcz24_1:wr.cell? ⟨gb194,1,none⟩=some (.slice (some ad196) l0_1.length c0_1):=(zAE BK194.out 1).trans rfl
                  have hcz24_2:wr.cell? ⟨gb194,2,none⟩=some (.int .i64 a0_2):=(zAE BK194.out 2).trans rfl
                  have hcz24_3:wr.cell? ⟨gb194,3,none⟩=some (.slice A0_3 l0_3.length c0_3):=(zAE BK194.out 3).trans rfl
                  have hfz24_0:=zAD BK194.out 0
                  have hfz24_1:=zAD BK194.out 1
                  have hfz24_2:=zAD BK194.out 2
                  have hfz24_3:=zAD BK194.out 3
                  have p198:0≤(x4_3:Int):=of_decide_eq_true (by first|(with_reducible assumption)|assumption)
                  have q198:x4_3<(l0_1.length:Int):=of_decide_eq_true (by first|(with_reducible assumption)|assumption)
                  obtain ⟨ad198,e198,hx198_0,hx198_1⟩:=at_T47 HR0_1.out x4_3 p198 q198
                  obtain rfl:ad196=ad198:=(by injection e198)
                  replace hx198_0:=(HB.out.cell (World.block_lt_of_cell? w _ hx198_0)).trans hx198_0
                  replace hx198_1:=(HB.out.cell (World.block_lt_of_cell? w _ hx198_1)).trans hx198_1
                  replace p198:=eq_true p198
                  replace q198:=eq_true q198
                  have p199:0≤(x3_2:Int):=of_decide_eq_true (by first|(with_reducible assumption)|assumption)
                  have q199:x3_2<(l0_1.length:Int):=of_decide_eq_true (by first|(with_reducible assumption)|assumption)
                  obtain ⟨ad199,e199,hx199_0,hx199_1⟩:=at_T47 HR0_1.out x3_2 p199 q199
                  obtain rfl:ad196=ad199:=(by injection e199)
                  replace hx199_0:=(HB.out.cell (World.block_lt_of_cell? w _ hx199_0)).trans hx199_0
                  replace hx199_1:=(HB.out.cell (World.block_lt_of_cell? w _ hx199_1)).trans hx199_1
                  replace p199:=eq_true p199
                  replace q199:=eq_true q199
                  go_wp2
                  repeat (go_quiet (fail);try go_wp2)
                  go_ret
                  exact ⟨by first|rfl|(simp [zAQ,zAP] <;> rfl)|(simp [*,zAQ,zAP] <;> rfl),by repeat (first|(with_reducible first|exact HB.out|apply zAB|apply zAA|apply zAC|refine zAF ?_ GE194.out)|exact HB.out)⟩
                 ·rw [if_neg c23] at H
                  have c23b0:(((rd_T47 l0_1 x4_3).f0).toList == ((rd_T47 l0_1 x3_2).f0).toList)=false:=beq_eq_false_iff_ne.mpr c23
                  have c23b1:(((rd_T47 l0_1 x4_3).f0).toList != ((rd_T47 l0_1 x3_2).f0).toList)=true:=bne_iff_ne.mpr c23
                  have H':=aK_ H
                  clear H
                  have hcz25_0:wr.cell? ⟨gb194,0,none⟩=some (.string a0_0):=(zAE BK194.out 0).trans rfl
                  have hcz25_1:wr.cell? ⟨gb194,1,none⟩=some (.slice (some ad196) l0_1.length c0_1):=(zAE BK194.out 1).trans rfl
                  have hcz25_2:wr.cell? ⟨gb194,2,none⟩=some (.int .i64 a0_2):=(zAE BK194.out 2).trans rfl
                  have hcz25_3:wr.cell? ⟨gb194,3,none⟩=some (.slice A0_3 l0_3.length c0_3):=(zAE BK194.out 3).trans rfl
                  have hfz25_0:=zAD BK194.out 0
                  have hfz25_1:=zAD BK194.out 1
                  have hfz25_2:=zAD BK194.out 2
                  have hfz25_3:=zAD BK194.out 3
                  have p198:0≤(x4_3:Int):=of_decide_eq_true (by first|(with_reducible assumption)|assumption)
                  have q198:x4_3<(l0_1.length:Int):=of_decide_eq_true (by first|(with_reducible assumption)|assumption)
                  obtain ⟨ad198,e198,hx198_0,hx198_1⟩:=at_T47 HR0_1.out x4_3 p198 q198
                  obtain rfl:ad196=ad198:=(by injection e198)
                  replace hx198_0:=(HB.out.cell (World.block_lt_of_cell? w _ hx198_0)).trans hx198_0
                  replace hx198_1:=(HB.out.cell (World.block_lt_of_cell? w _ hx198_1)).trans hx198_1
                  replace p198:=eq_true p198
                  replace q198:=eq_true q198
                  have p199:0≤(x3_2:Int):=of_decide_eq_true (by first|(with_reducible assumption)|assumption)
                  have q199:x3_2<(l0_1.length:Int):=of_decide_eq_true (by first|(with_reducible assumption)|assumption)
                  obtain ⟨ad199,e199,hx199_0,hx199_1⟩:=at_T47 HR0_1.out x3_2 p199 q199
                  obtain rfl:ad196=ad199:=(by injection e199)
                  replace hx199_0:=(HB.out.cell (World.block_lt_of_cell? w _ hx199_0)).trans hx199_0
                  replace hx199_1:=(HB.out.cell (World.block_lt_of_cell? w _ hx199_1)).trans hx199_1
                  replace p199:=eq_true p199
                  replace q199:=eq_true q199
                  go_wp2
                  repeat (go_quiet (fail);try go_wp2)
                  go_roundg k3
                  case measure=>have:=HJ3.out;have:=HK2.out;have:=HK3.out;omega
                  case rel=>exact ⟨(wrap64 (x4_3+1)),(by first|rfl|(simp;done)|(simp [*];done)),H',⟨by have:=HJ3.out;have:=HK2.out;have:=HK3.out;omega⟩,⟨by (with_reducible repeat (first|refine zAG ?_ _|refine zAI ?_|refine zAH ?_ _));exact BK194.out⟩,⟨by repeat (first|(with_reducible first|exact HB.out|apply zAB|apply zAA|apply zAC|refine zAF ?_ GE194.out)|exact HB.out)⟩⟩
                ·rw [if_neg c22] at H
                 exact absurd H (by simp)
               ·rw [if_neg c21] at H
                exact absurd H (by simp)
              ·rw [if_neg c20] at H
               exact absurd H (by simp)
             ·rw [if_neg c19] at H
              exact absurd H (by simp)
            ·rw [if_neg c18] at H
             have c18b0:decide (x4_3<x3_2)=false:=decide_eq_false c18
             clear c18
             by_cases c26:0≤x3_2
             ·rw [if_pos c26] at H
              have c26b0:decide (0≤x3_2)=true:=decide_eq_true c26
              clear c26
              by_cases c27:x3_2<(l0_1.length:Int)
              ·rw [if_pos c27] at H
               have c27b0:decide (x3_2<(l0_1.length:Int))=true:=decide_eq_true c27
               clear c27
               by_cases c28:((rd_T47 l0_1 x3_2).f1)<1
               ·rw [if_pos c28] at H
                have c28b0:decide (((rd_T47 l0_1 x3_2).f1)<1)=true:=decide_eq_true c28
                clear c28
                obtain rfl:=Option.some.inj H
                have hcz29_0:wr.cell? ⟨gb194,0,none⟩=some (.string a0_0):=(zAE BK194.out 0).trans rfl
                have hcz29_1:wr.cell? ⟨gb194,1,none⟩=some (.slice (some ad196) l0_1.length c0_1):=(zAE BK194.out 1).trans rfl
                have hcz29_2:wr.cell? ⟨gb194,2,none⟩=some (.int .i64 a0_2):=(zAE BK194.out 2).trans rfl
                have hcz29_3:wr.cell? ⟨gb194,3,none⟩=some (.slice A0_3 l0_3.length c0_3):=(zAE BK194.out 3).trans rfl
                have hfz29_0:=zAD BK194.out 0
                have hfz29_1:=zAD BK194.out 1
                have hfz29_2:=zAD BK194.out 2
                have hfz29_3:=zAD BK194.out 3
                have p200:0≤(x3_2:Int):=of_decide_eq_true (by first|(with_reducible assumption)|assumption)
                have q200:x3_2<(l0_1.length:Int):=of_decide_eq_true (by first|(with_reducible assumption)|assumption)
                obtain ⟨ad200,e200,hx200_0,hx200_1⟩:=at_T47 HR0_1.out x3_2 p200 q200
                obtain rfl:ad196=ad200:=(by injection e200)
                replace hx200_0:=(HB.out.cell (World.block_lt_of_cell? w _ hx200_0)).trans hx200_0
                replace hx200_1:=(HB.out.cell (World.block_lt_of_cell? w _ hx200_1)).trans hx200_1
                replace p200:=eq_true p200
                replace q200:=eq_true q200
                go_wp2
                repeat (go_quiet (fail);try go_wp2)
                go_ret
                exact ⟨by first|rfl|(simp [zAQ,zAP] <;> rfl)|(simp [*,zAQ,zAP] <;> rfl),by repeat (first|(with_reducible first|exact HB.out|apply zAB|apply zAA|apply zAC|refine zAF ?_ GE194.out)|exact HB.out)⟩
               ·rw [if_neg c28] at H
                have c28b0:decide (((rd_T47 l0_1 x3_2).f1)<1)=false:=decide_eq_false c28
                clear c28
                by_cases c30:((rd_T47 l0_1 x3_2).f1) > 1000000000000
                ·rw [if_pos c30] at H
                 have c30b0:decide (1000000000000<((rd_T47 l0_1 x3_2).f1))=true:=decide_eq_true c30
                 clear c30
                 obtain rfl:=Option.some.inj H
                 have hcz31_0:wr.cell? ⟨gb194,0,none⟩=some (.string a0_0):=(zAE BK194.out 0).trans rfl
                 have hcz31_1:wr.cell? ⟨gb194,1,none⟩=some (.slice (some ad196) l0_1.length c0_1):=(zAE BK194.out 1).trans rfl
                 have hcz31_2:wr.cell? ⟨gb194,2,none⟩=some (.int .i64 a0_2):=(zAE BK194.out 2).trans rfl
                 have hcz31_3:wr.cell? ⟨gb194,3,none⟩=some (.slice A0_3 l0_3.length c0_3):=(zAE BK194.out 3).trans rfl
                 have hfz31_0:=zAD BK194.out 0
                 have hfz31_1:=zAD BK194.out 1
                 have hfz31_2:=zAD BK194.out 2
                 have hfz31_3:=zAD BK194.out 3
                 have p200:0≤(x3_2:Int):=of_decide_eq_true (by first|(with_reducible assumption)|assumption)
                 have q200:x3_2<(l0_1.length:Int):=of_decide_eq_true (by first|(with_reducible assumption)|assumption)
                 obtain ⟨ad200,e200,hx200_0,hx200_1⟩:=at_T47 HR0_1.out x3_2 p200 q200
                 obtain rfl:ad196=ad200:=(by injection e200)
                 replace hx200_0:=(HB.out.cell (World.block_lt_of_cell? w _ hx200_0)).trans hx200_0
                 replace hx200_1:=(HB.out.cell (World.block_lt_of_cell? w _ hx200_1)).trans hx200_1
                 replace p200:=eq_true p200
                 replace q200:=eq_true q200
                 have p201:0≤(x3_2:Int):=of_decide_eq_true (by first|(with_reducible assumption)|assumption)
                 have q201:x3_2<(l0_1.length:Int):=of_decide_eq_true (by first|(with_reducible assumption)|assumption)
                 obtain ⟨ad201,e201,hx201_0,hx201_1⟩:=at_T47 HR0_1.out x3_2 p201 q201
                 obtain rfl:ad196=ad201:=(by injection e201)
                 replace hx201_0:=(HB.out.cell (World.block_lt_of_cell? w _ hx201_0)).trans hx201_0
                 replace hx201_1:=(HB.out.cell (World.block_lt_of_cell? w _ hx201_1)).trans hx201_1
                 replace p201:=eq_true p201
                 replace q201:=eq_true q201
                 go_wp2
                 repeat (go_quiet (fail);try go_wp2)
                 go_ret
                 exact ⟨by first|rfl|(simp [zAQ,zAP] <;> rfl)|(simp [*,zAQ,zAP] <;> rfl),by repeat (first|(with_reducible first|exact HB.out|apply zAB|apply zAA|apply zAC|refine zAF ?_ GE194.out)|exact HB.out)⟩
                ·rw [if_neg c30] at H
                 have c30b0:decide (1000000000000<((rd_T47 l0_1 x3_2).f1))=false:=decide_eq_false c30
                 clear c30
                 have H':=aK_ H
                 clear H
                 have hcz32_0:wr.cell? ⟨gb194,0,none⟩=some (.string a0_0):=(zAE BK194.out 0).trans rfl
                 have hcz32_1:wr.cell? ⟨gb194,1,none⟩=some (.slice (some ad196) l0_1.length c0_1):=(zAE BK194.out 1).trans rfl
                 have hcz32_2:wr.cell? ⟨gb194,2,none⟩=some (.int .i64 a0_2):=(zAE BK194.out 2).trans rfl
                 have hcz32_3:wr.cell? ⟨gb194,3,none⟩=some (.slice A0_3 l0_3.length c0_3):=(zAE BK194.out 3).trans rfl
                 have hfz32_0:=zAD BK194.out 0
                 have hfz32_1:=zAD BK194.out 1
                 have hfz32_2:=zAD BK194.out 2
                 have hfz32_3:=zAD BK194.out 3
                 have p200:0≤(x3_2:Int):=of_decide_eq_true (by first|(with_reducible assumption)|assumption)
                 have q200:x3_2<(l0_1.length:Int):=of_decide_eq_true (by first|(with_reducible assumption)|assumption)
                 obtain ⟨ad200,e200,hx200_0,hx200_1⟩:=at_T47 HR0_1.out x3_2 p200 q200
                 obtain rfl:ad196=ad200:=(by injection e200)
                 replace hx200_0:=(HB.out.cell (World.block_lt_of_cell? w _ hx200_0)).trans hx200_0
                 replace hx200_1:=(HB.out.cell (World.block_lt_of_cell? w _ hx200_1)).trans hx200_1
                 replace p200:=eq_true p200
                 replace q200:=eq_true q200
                 have p201:0≤(x3_2:Int):=of_decide_eq_true (by first|(with_reducible assumption)|assumption)
                 have q201:x3_2<(l0_1.length:Int):=of_decide_eq_true (by first|(with_reducible assumption)|assumption)
                 obtain ⟨ad201,e201,hx201_0,hx201_1⟩:=at_T47 HR0_1.out x3_2 p201 q201
                 obtain rfl:ad196=ad201:=(by injection e201)
                 replace hx201_0:=(HB.out.cell (World.block_lt_of_cell? w _ hx201_0)).trans hx201_0
                 replace hx201_1:=(HB.out.cell (World.block_lt_of_cell? w _ hx201_1)).trans hx201_1
                 replace p201:=eq_true p201
                 replace q201:=eq_true q201
                 go_wp2
                 repeat (go_quiet (fail);try go_wp2)
                 go_roundg k3
                 case measure=>have:=HJ3.out;have:=HK2.out;have:=HK3.out;omega
                 case rel=>exact ⟨(wrap64 (x3_2+1)),(by first|rfl|(simp;done)|(simp [*];done)),H',⟨by have:=HJ3.out;have:=HK2.out;have:=HK3.out;omega⟩,⟨by (with_reducible repeat (first|refine zAG ?_ _|refine zAI ?_|refine zAH ?_ _));exact BK194.out⟩,⟨by repeat (first|(with_reducible first|exact HB.out|apply zAB|apply zAA|apply zAC|refine zAF ?_ GE194.out)|exact HB.out)⟩⟩
              ·rw [if_neg c27] at H
               exact absurd H (by simp)
             ·rw [if_neg c26] at H
              exact absurd H (by simp)
         ·replace c15:=Bool.eq_false_iff.mpr c15
          subst c15
          have H1:(some 61)=some r:=by rw [if_neg (show ¬ (false=true) by decide)] at H;exact H
          clear H
          have H:=H1
          clear H1
          obtain rfl:=Option.some.inj H
          have hcz33_0:wr.cell? ⟨gb194,0,none⟩=some (.string a0_0):=(zAE BK194.out 0).trans rfl
          have hcz33_1:wr.cell? ⟨gb194,1,none⟩=some (.slice A0_1 l0_1.length c0_1):=(zAE BK194.out 1).trans rfl
          have hcz33_2:wr.cell? ⟨gb194,2,none⟩=some (.int .i64 a0_2):=(zAE BK194.out 2).trans rfl
          have hcz33_3:wr.cell? ⟨gb194,3,none⟩=some (.slice A0_3 l0_3.length c0_3):=(zAE BK194.out 3).trans rfl
          have hfz33_0:=zAD BK194.out 0
          have hfz33_1:=zAD BK194.out 1
          have hfz33_2:=zAD BK194.out 2
          have hfz33_3:=zAD BK194.out 3
          have p196:0≤(x3_2:Int):=of_decide_eq_true (by first|(with_reducible assumption)|assumption)
          have q196:x3_2<(l0_1.length:Int):=of_decide_eq_true (by first|(with_reducible assumption)|assumption)
          obtain ⟨ad196,e196,hx196_0,hx196_1⟩:=at_T47 HR0_1.out x3_2 p196 q196
          cases e196
          replace hx196_0:=(HB.out.cell (World.block_lt_of_cell? w _ hx196_0)).trans hx196_0
          replace hx196_1:=(HB.out.cell (World.block_lt_of_cell? w _ hx196_1)).trans hx196_1
          replace p196:=eq_true p196
          replace q196:=eq_true q196
          go_wp2_with (first|(go_at_call 59;(with_reducible refine (zAN.calls k2 ((rd_T47 l0_1 x3_2).f0) false _ A14.out).mono ?_);rintro e w34 ⟨rfl,hb⟩;have n0_:=aK_ (zAX (g:=gb194) (o:=.cells #[.string a0_0,.slice (some ad196) l0_1.length c0_1,.int .i64 a0_2,.slice A0_3 l0_3.length c0_3] 25 (0,0)) (by (with_reducible repeat (first|refine zAG ?_ _|refine zAI ?_|refine zAH ?_ _));exact BK194.out) hb);have n1_:=aK_ (zAL (by repeat (first|(with_reducible first|exact HB.out|apply zAB|apply zAA|apply zAC|refine zAF ?_ GE194.out)|exact HB.out)) hb);clear BK194;clear HB;have BK194:=n0_;have HB:=n1_;clear n0_ n1_;(try clear hb);(try clear hb2);(try clear hk);(try clear hi)))
          repeat (go_quiet (first|(go_at_call 59;(with_reducible refine (zAN.calls k2 ((rd_T47 l0_1 x3_2).f0) false _ A14.out).mono ?_);rintro e w34 ⟨rfl,hb⟩;have n0_:=aK_ (zAX (g:=gb194) (o:=.cells #[.string a0_0,.slice (some ad196) l0_1.length c0_1,.int .i64 a0_2,.slice A0_3 l0_3.length c0_3] 25 (0,0)) (by (with_reducible repeat (first|refine zAG ?_ _|refine zAI ?_|refine zAH ?_ _));exact BK194.out) hb);have n1_:=aK_ (zAL (by repeat (first|(with_reducible first|exact HB.out|apply zAB|apply zAA|apply zAC|refine zAF ?_ GE194.out)|exact HB.out)) hb);clear BK194;clear HB;have BK194:=n0_;have HB:=n1_;clear n0_ n1_;(try clear hb);(try clear hb2);(try clear hk);(try clear hi)));try go_wp2_with (first|(go_at_call 59;(with_reducible refine (zAN.calls k2 ((rd_T47 l0_1 x3_2).f0) false _ A14.out).mono ?_);rintro e w34 ⟨rfl,hb⟩;have n0_:=aK_ (zAX (g:=gb194) (o:=.cells #[.string a0_0,.slice (some ad196) l0_1.length c0_1,.int .i64 a0_2,.slice A0_3 l0_3.length c0_3] 25 (0,0)) (by (with_reducible repeat (first|refine zAG ?_ _|refine zAI ?_|refine zAH ?_ _));exact BK194.out) hb);have n1_:=aK_ (zAL (by repeat (first|(with_reducible first|exact HB.out|apply zAB|apply zAA|apply zAC|refine zAF ?_ GE194.out)|exact HB.out)) hb);clear BK194;clear HB;have BK194:=n0_;have HB:=n1_;clear n0_ n1_;(try clear hb);(try clear hb2);(try clear hk);(try clear hi))))
          go_ret
          exact ⟨by first|rfl|(simp [zAQ,zAP] <;> rfl)|(simp [*,zAQ,zAP] <;> rfl),by repeat (first|(with_reducible first|exact HB.out|apply zAB|apply zAA|apply zAC|refine zAF ?_ GE194.out)|exact HB.out)⟩
        ·rw [if_neg c13] at H
         exact absurd H (by simp)
       ·rw [if_neg c12] at H
        have c12b0:decide (x3_2<(l0_1.length:Int))=false:=decide_eq_false c12
        clear c12
        by_cases c35:a0_2<0
        ·rw [if_pos c35] at H
         have c35b0:decide (a0_2<0)=true:=decide_eq_true c35
         clear c35
         obtain rfl:=Option.some.inj H
         have hcz36_0:wr.cell? ⟨gb194,0,none⟩=some (.string a0_0):=(zAE BK194.out 0).trans rfl
         have hcz36_1:wr.cell? ⟨gb194,1,none⟩=some (.slice A0_1 l0_1.length c0_1):=(zAE BK194.out 1).trans rfl
         have hcz36_2:wr.cell? ⟨gb194,2,none⟩=some (.int .i64 a0_2):=(zAE BK194.out 2).trans rfl
         have hcz36_3:wr.cell? ⟨gb194,3,none⟩=some (.slice A0_3 l0_3.length c0_3):=(zAE BK194.out 3).trans rfl
         have hfz36_0:=zAD BK194.out 0
         have hfz36_1:=zAD BK194.out 1
         have hfz36_2:=zAD BK194.out 2
         have hfz36_3:=zAD BK194.out 3
         go_wp2
         repeat (go_quiet (fail);try go_wp2)
         go_ret
         exact ⟨by first|rfl|(simp [zAQ,zAP] <;> rfl)|(simp [*,zAQ,zAP] <;> rfl),by repeat (first|(with_reducible first|exact HB.out|apply zAB|apply zAA|apply zAC|refine zAF ?_ GE194.out)|exact HB.out)⟩
        ·rw [if_neg c35] at H
         have c35b0:decide (a0_2<0)=false:=decide_eq_false c35
         clear c35
         by_cases c37:a0_2 > 4
         ·rw [if_pos c37] at H
          have c37b0:decide (4<a0_2)=true:=decide_eq_true c37
          clear c37
          obtain rfl:=Option.some.inj H
          have hcz38_0:wr.cell? ⟨gb194,0,none⟩=some (.string a0_0):=(zAE BK194.out 0).trans rfl
          have hcz38_1:wr.cell? ⟨gb194,1,none⟩=some (.slice A0_1 l0_1.length c0_1):=(zAE BK194.out 1).trans rfl
          have hcz38_2:wr.cell? ⟨gb194,2,none⟩=some (.int .i64 a0_2):=(zAE BK194.out 2).trans rfl
          have hcz38_3:wr.cell? ⟨gb194,3,none⟩=some (.slice A0_3 l0_3.length c0_3):=(zAE BK194.out 3).trans rfl
          have hfz38_0:=zAD BK194.out 0
          have hfz38_1:=zAD BK194.out 1
          have hfz38_2:=zAD BK194.out 2
          have hfz38_3:=zAD BK194.out 3
          go_wp2
          repeat (go_quiet (fail);try go_wp2)
          go_ret
          exact ⟨by first|rfl|(simp [zAQ,zAP] <;> rfl)|(simp [*,zAQ,zAP] <;> rfl),by repeat (first|(with_reducible first|exact HB.out|apply zAB|apply zAA|apply zAC|refine zAF ?_ GE194.out)|exact HB.out)⟩
         ·rw [if_neg c37] at H
          have c37b0:decide (4<a0_2)=false:=decide_eq_false c37
          clear c37
          obtain rfl:=Option.some.inj H
          have hcz39_0:wr.cell? ⟨gb194,0,none⟩=some (.string a0_0):=(zAE BK194.out 0).trans rfl
          have hcz39_1:wr.cell? ⟨gb194,1,none⟩=some (.slice A0_1 l0_1.length c0_1):=(zAE BK194.out 1).trans rfl
          have hcz39_2:wr.cell? ⟨gb194,2,none⟩=some (.int .i64 a0_2):=(zAE BK194.out 2).trans rfl
          have hcz39_3:wr.cell? ⟨gb194,3,none⟩=some (.slice A0_3 l0_3.length c0_3):=(zAE BK194.out 3).trans rfl
          have hfz39_0:=zAD BK194.out 0
          have hfz39_1:=zAD BK194.out 1
          have hfz39_2:=zAD BK194.out 2
          have hfz39_3:=zAD BK194.out 3
          go_wp2
          repeat (go_quiet (fail);try go_wp2)
          go_ret
          exact ⟨by first|rfl|(simp [zAQ,zAP] <;> rfl)|(simp [*,zAQ,zAP] <;> rfl),by repeat (first|(with_reducible first|exact HB.out|apply zAB|apply zAA|apply zAC|refine zAF ?_ GE194.out)|exact HB.out)⟩
 ·replace c3:=Bool.eq_false_iff.mpr c3
  subst c3
  have H1:(some 61)=some r:=by rw [if_neg (show ¬ (false=true) by decide)] at H;exact H
  clear H
  have H:=H1
  clear H1
  obtain rfl:=Option.some.inj H
  go_enter Tryd.func40,Tryd.ntmps40
  go_wp2_with (first|((with_reducible refine zAf (N:=1) rfl ?_);(try (refine gate_guard (by rfl) ?_;dsimp only));refine zAc ?hg (N:=1) ?hd (cs:=#[.string a0_0,.slice A0_1 l0_1.length c0_1,.int .i64 a0_2,.slice A0_3 l0_3.length c0_3]) (t:=25) ?hr ?_;(case hd=>rfl);(case hg=>rfl);(case hr=>first|(go_simp;done)|(go_simp;rfl));intro gb194 hg w40 hbox hb;have n0_:=aK_ (zAL (by repeat (first|(with_reducible first|exact HB.out|apply zAB|apply zAA|apply zAC)|exact HB.out)) hb);have n1_:=aK_ (hbox);have n2_:=aK_ ((by rw [hg];exact (zAK (by repeat (first|(with_reducible first|exact HB.out|apply zAB|apply zAA|apply zAC)|exact HB.out))):w.heap.size≤gb194));have n3_:=aK_ ((by rw [hg];exact (zAK (by repeat (first|(with_reducible first|exact HB.out|apply zAB|apply zAA|apply zAC)|exact HB.out))):w.heap.size≤gb194));clear HB;have HB:=n0_;have BK194:=n1_;have GW194:=n2_;have GE194:=n3_;clear n0_ n1_ n2_ n3_;clear hb hbox hg;have hcz41_0:w40.cell? ⟨gb194,0,none⟩=some (.string a0_0):=(zAE BK194.out 0).trans rfl;have hcz41_1:w40.cell? ⟨gb194,1,none⟩=some (.slice A0_1 l0_1.length c0_1):=(zAE BK194.out 1).trans rfl;have hcz41_2:w40.cell? ⟨gb194,2,none⟩=some (.int .i64 a0_2):=(zAE BK194.out 2).trans rfl;have hcz41_3:w40.cell? ⟨gb194,3,none⟩=some (.slice A0_3 l0_3.length c0_3):=(zAE BK194.out 3).trans rfl;have hfz41_0:=zAD BK194.out 0;have hfz41_1:=zAD BK194.out 1;have hfz41_2:=zAD BK194.out 2;have hfz41_3:=zAD BK194.out 3)|(go_at_call 59;(with_reducible refine (zAN.calls k a0_0 false _ A2.out).mono ?_);rintro e w42 ⟨rfl,hb⟩;have n0_:=aK_ (zAX (g:=gb194) (o:=.cells #[.string a0_0,.slice A0_1 l0_1.length c0_1,.int .i64 a0_2,.slice A0_3 l0_3.length c0_3] 25 (0,0)) (by (with_reducible repeat (first|refine zAG ?_ _|refine zAI ?_|refine zAH ?_ _));exact BK194.out) hb);have n1_:=aK_ (zAL (by repeat (first|(with_reducible first|exact HB.out|apply zAB|apply zAA|apply zAC|refine zAF ?_ GE194.out)|exact HB.out)) hb);clear BK194;clear HB;have BK194:=n0_;have HB:=n1_;clear n0_ n1_;(try clear hb);(try clear hb2);(try clear hk);(try clear hi)))
  repeat (go_quiet (first|((with_reducible refine zAf (N:=1) rfl ?_);(try (refine gate_guard (by rfl) ?_;dsimp only));refine zAc ?hg (N:=1) ?hd (cs:=#[.string a0_0,.slice A0_1 l0_1.length c0_1,.int .i64 a0_2,.slice A0_3 l0_3.length c0_3]) (t:=25) ?hr ?_;(case hd=>rfl);(case hg=>rfl);(case hr=>first|(go_simp;done)|(go_simp;rfl));intro gb194 hg w40 hbox hb;have n0_:=aK_ (zAL (by repeat (first|(with_reducible first|exact HB.out|apply zAB|apply zAA|apply zAC)|exact HB.out)) hb);have n1_:=aK_ (hbox);have n2_:=aK_ ((by rw [hg];exact (zAK (by repeat (first|(with_reducible first|exact HB.out|apply zAB|apply zAA|apply zAC)|exact HB.out))):w.heap.size≤gb194));have n3_:=aK_ ((by rw [hg];exact (zAK (by repeat (first|(with_reducible first|exact HB.out|apply zAB|apply zAA|apply zAC)|exact HB.out))):w.heap.size≤gb194));clear HB;have HB:=n0_;have BK194:=n1_;have GW194:=n2_;have GE194:=n3_;clear n0_ n1_ n2_ n3_;clear hb hbox hg;have hcz41_0:w40.cell? ⟨gb194,0,none⟩=some (.string a0_0):=(zAE BK194.out 0).trans rfl;have hcz41_1:w40.cell? ⟨gb194,1,none⟩=some (.slice A0_1 l0_1.length c0_1):=(zAE BK194.out 1).trans rfl;have hcz41_2:w40.cell? ⟨gb194,2,none⟩=some (.int .i64 a0_2):=(zAE BK194.out 2).trans rfl;have hcz41_3:w40.cell? ⟨gb194,3,none⟩=some (.slice A0_3 l0_3.length c0_3):=(zAE BK194.out 3).trans rfl;have hfz41_0:=zAD BK194.out 0;have hfz41_1:=zAD BK194.out 1;have hfz41_2:=zAD BK194.out 2;have hfz41_3:=zAD BK194.out 3)|(go_at_call 59;(with_reducible refine (zAN.calls k a0_0 false _ A2.out).mono ?_);rintro e w42 ⟨rfl,hb⟩;have n0_:=aK_ (zAX (g:=gb194) (o:=.cells #[.string a0_0,.slice A0_1 l0_1.length c0_1,.int .i64 a0_2,.slice A0_3 l0_3.length c0_3] 25 (0,0)) (by (with_reducible repeat (first|refine zAG ?_ _|refine zAI ?_|refine zAH ?_ _));exact BK194.out) hb);have n1_:=aK_ (zAL (by repeat (first|(with_reducible first|exact HB.out|apply zAB|apply zAA|apply zAC|refine zAF ?_ GE194.out)|exact HB.out)) hb);clear BK194;clear HB;have BK194:=n0_;have HB:=n1_;clear n0_ n1_;(try clear hb);(try clear hb2);(try clear hk);(try clear hi)));try go_wp2_with (first|((with_reducible refine zAf (N:=1) rfl ?_);(try (refine gate_guard (by rfl) ?_;dsimp only));refine zAc ?hg (N:=1) ?hd (cs:=#[.string a0_0,.slice A0_1 l0_1.length c0_1,.int .i64 a0_2,.slice A0_3 l0_3.length c0_3]) (t:=25) ?hr ?_;(case hd=>rfl);(case hg=>rfl);(case hr=>first|(go_simp;done)|(go_simp;rfl));intro gb194 hg w40 hbox hb;have n0_:=aK_ (zAL (by repeat (first|(with_reducible first|exact HB.out|apply zAB|apply zAA|apply zAC)|exact HB.out)) hb);have n1_:=aK_ (hbox);have n2_:=aK_ ((by rw [hg];exact (zAK (by repeat (first|(with_reducible first|exact HB.out|apply zAB|apply zAA|apply zAC)|exact HB.out))):w.heap.size≤gb194));have n3_:=aK_ ((by rw [hg];exact (zAK (by repeat (first|(with_reducible first|exact HB.out|apply zAB|apply zAA|apply zAC)|exact HB.out))):w.heap.size≤gb194));clear HB;have HB:=n0_;have BK194:=n1_;have GW194:=n2_;have GE194:=n3_;clear n0_ n1_ n2_ n3_;clear hb hbox hg;have hcz41_0:w40.cell? ⟨gb194,0,none⟩=some (.string a0_0):=(zAE BK194.out 0).trans rfl;have hcz41_1:w40.cell? ⟨gb194,1,none⟩=some (.slice A0_1 l0_1.length c0_1):=(zAE BK194.out 1).trans rfl;have hcz41_2:w40.cell? ⟨gb194,2,none⟩=some (.int .i64 a0_2):=(zAE BK194.out 2).trans rfl;have hcz41_3:w40.cell? ⟨gb194,3,none⟩=some (.slice A0_3 l0_3.length c0_3):=(zAE BK194.out 3).trans rfl;have hfz41_0:=zAD BK194.out 0;have hfz41_1:=zAD BK194.out 1;have hfz41_2:=zAD BK194.out 2;have hfz41_3:=zAD BK194.out 3)|(go_at_call 59;(with_reducible refine (zAN.calls k a0_0 false _ A2.out).mono ?_);rintro e w42 ⟨rfl,hb⟩;have n0_:=aK_ (zAX (g:=gb194) (o:=.cells #[.string a0_0,.slice A0_1 l0_1.length c0_1,.int .i64 a0_2,.slice A0_3 l0_3.length c0_3] 25 (0,0)) (by (with_reducible repeat (first|refine zAG ?_ _|refine zAI ?_|refine zAH ?_ _));exact BK194.out) hb);have n1_:=aK_ (zAL (by repeat (first|(with_reducible first|exact HB.out|apply zAB|apply zAA|apply zAC|refine zAF ?_ GE194.out)|exact HB.out)) hb);clear BK194;clear HB;have BK194:=n0_;have HB:=n1_;clear n0_ n1_;(try clear hb);(try clear hb2);(try clear hk);(try clear hi))))
  go_ret
  exact ⟨by first|rfl|(simp [zAQ,zAP] <;> rfl)|(simp [*,zAQ,zAP] <;> rfl),by repeat (first|(with_reducible first|exact HB.out|apply zAB|apply zAA|apply zAC|refine zAF ?_ GE194.out)|exact HB.out)⟩
end Go.Proofs.YthbnigjckjkmnaaDoor.S

namespace Go.Proofs.YthbnigjckjkmnaaDoor.S
open Go.RowKit Go.Proofs.YthbnigjckjkmnaaDoorW.PrintWords Go.Proofs.YthbnigjckjkmnaaDoorW.PrintLast Go.Proofs.YthbnigjckjkmnaaDoorW.PrintMore
attribute [local go_sem] max2_int min2_int max_two min_two max_three min_three max_four min_four
mutual
def zAY.j0:Nat→Int→Int→Bool→Option (Int)
 |0,_,_,_=>none
 |k+1,x1,x5,x6=>if x6=true then (some 1000000000000) else (if x5=3 then (zAY.j1 k x1 x5 (x5 == 3)) else (zAY.j1 k x1 x5 (x5 == 4)))
def zAY.j1:Nat→Int→Int→Bool→Option (Int)
 |0,_,_,_=>none
 |k+1,x1,x5,x12=>if x12=true then (some (wrap64 (x1 - 1))) else (if x5=15 then (some 10000) else (some 0))
end
def zAY.f (k:Nat) (a0:Int) (a1:Int):Option (Int):=if a0=1 then (zAY.j0 k a1 a0 (a0 == 1)) else (if a0=2 then (zAY.j0 k a1 a0 (a0 == 2)) else (if a0=11 then (zAY.j0 k a1 a0 (a0 == 11)) else (if a0=12 then (zAY.j0 k a1 a0 (a0 == 12)) else (zAY.j0 k a1 a0 (a0 == 16)))))
theorem zAY.mono_l:∀ k,(∀ y0 y1 y2,LeO (zAY.j0 k y0 y1 y2) (zAY.j0 (k+1) y0 y1 y2))∧(∀ y0 y1 y2,LeO (zAY.j1 k y0 y1 y2) (zAY.j1 (k+1) y0 y1 y2))
 |0=>⟨fun _ _ _ r h=>by simp [zAY.j0] at h,fun _ _ _ r h=>by simp [zAY.j1] at h⟩
 |k+1=>by
  obtain ⟨ih0,ih1⟩:=zAY.mono_l k
  refine ⟨?_,?_⟩
  ·intro y0 y1 y2
   unfold zAY.j0
   repeat' first
   |(with_reducible exact ih0 _ _ _)
   |(with_reducible exact ih1 _ _ _)
   |(with_reducible exact LeO.refl _)
   |(with_reducible exact LeO.none _)
   |(with_reducible refine LeO.ite ?_ ?_)
   |(with_reducible refine LeO.bind ?_ (fun _=>?_))
   |exact ih0 _ _ _
   |exact ih1 _ _ _
   |exact LeO.none _
   |refine LeO.ite ?_ ?_
   |refine LeO.bind ?_ (fun _=>?_)
  ·intro y0 y1 y2
   unfold zAY.j1
   repeat' first
   |(with_reducible exact ih0 _ _ _)
   |(with_reducible exact ih1 _ _ _)
   |(with_reducible exact LeO.refl _)
   |(with_reducible exact LeO.none _)
   |(with_reducible refine LeO.ite ?_ ?_)
   |(with_reducible refine LeO.bind ?_ (fun _=>?_))
   |exact ih0 _ _ _
   |exact ih1 _ _ _
   |exact LeO.none _
   |refine LeO.ite ?_ ?_
   |refine LeO.bind ?_ (fun _=>?_)
theorem zAY.mono:∀ a0 a1 k,LeO (zAY.f k a0 a1) (zAY.f (k+1) a0 a1):=by
 intro a0 a1 k
 obtain ⟨ih0,ih1⟩:=zAY.mono_l k
 unfold zAY.f
 repeat' first
   |(with_reducible exact ih0 _ _ _)
   |(with_reducible exact ih1 _ _ _)
   |(with_reducible exact LeO.refl _)
   |(with_reducible exact LeO.none _)
   |(with_reducible refine LeO.ite ?_ ?_)
   |(with_reducible refine LeO.bind ?_ (fun _=>?_))
   |exact ih0 _ _ _
   |exact ih1 _ _ _
   |exact LeO.none _
   |refine LeO.ite ?_ ?_
   |refine LeO.bind ?_ (fun _=>?_)
set_option maxHeartbeats 8000000 in
set_option maxRecDepth 100000 in
theorem zAY.calls (k:Nat) (a0:Int) (a1:Int) (r:Int) (w:World) (h:zAY.f k a0 a1=some r) :
  Calls Tryd.prog 60 #[.int .i64 a0,.int .i64 a1] w fun e w'=>e = .returned (.int .i64 r)∧zAk w w':=by
 have H:(if a0=1 then (zAY.j0 k a1 a0 (a0 == 1)) else (if a0=2 then (zAY.j0 k a1 a0 (a0 == 2)) else (if a0=11 then (zAY.j0 k a1 a0 (a0 == 11)) else (if a0=12 then (zAY.j0 k a1 a0 (a0 == 12)) else (zAY.j0 k a1 a0 (a0 == 16))))))=some r:=h
 clear h
 have HC3:=aK_ H
 clear H
 go_enter Tryd.func60,Tryd.ntmps60
 go_upto_if 6 with (fail)
 go_cut [6] (fun v6 wc=>∃ (kq:Nat) (x6_2:Bool),v6 = .bool x6_2∧zAa (zAY.j0 kq a1 a0 x6_2=some r)∧zAa (kq≤k)∧zAk w wc)
 case first =>
  have H:=HC3.out
  clear HC3
  by_cases c4:a0=1
  ·rw [if_pos c4] at H
   have c4b0:(a0 == 1)=true:=beq_iff_eq.mpr c4
   have c4b1:(a0 != 1)=false:=bne_eq_false_iff_eq.mpr c4
   clear c4
   (first|rw [c4b0]|(simp only [i64_w,i32_w];rw [c4b0])|skip)
   have H':=aK_ H
   clear H
   go_wp2
   go_meet
   case rel=>exact ⟨_,((a0 == 1)),(by first|rfl|(simp;done)|(simp [*];done)),H',⟨by first|omega|exact Nat.le_refl _⟩,by repeat (first|exact zAk.refl _|apply zAk.step)⟩
  ·rw [if_neg c4] at H
   have c4b0:(a0 == 1)=false:=beq_eq_false_iff_ne.mpr c4
   have c4b1:(a0 != 1)=true:=bne_iff_ne.mpr c4
   (first|rw [c4b0]|(simp only [i64_w,i32_w];rw [c4b0])|skip)
   by_cases c5:a0=2
   ·rw [if_pos c5] at H
    have c5b0:(a0 == 2)=true:=beq_iff_eq.mpr c5
    have c5b1:(a0 != 2)=false:=bne_eq_false_iff_eq.mpr c5
    clear c5
    have H':=aK_ H
    clear H
    go_wp2
    go_meet
    case rel=>exact ⟨_,((a0 == 2)),(by first|rfl|(simp;done)|(simp [*];done)),H',⟨by first|omega|exact Nat.le_refl _⟩,by repeat (first|exact zAk.refl _|apply zAk.step)⟩
   ·rw [if_neg c5] at H
    have c5b0:(a0 == 2)=false:=beq_eq_false_iff_ne.mpr c5
    have c5b1:(a0 != 2)=true:=bne_iff_ne.mpr c5
    by_cases c6:a0=11
    ·rw [if_pos c6] at H
     have c6b0:(a0 == 11)=true:=beq_iff_eq.mpr c6
     have c6b1:(a0 != 11)=false:=bne_eq_false_iff_eq.mpr c6
     clear c6
     have H':=aK_ H
     clear H
     go_wp2
     go_meet
     case rel=>exact ⟨_,((a0 == 11)),(by first|rfl|(simp;done)|(simp [*];done)),H',⟨by first|omega|exact Nat.le_refl _⟩,by repeat (first|exact zAk.refl _|apply zAk.step)⟩
    ·rw [if_neg c6] at H
     have c6b0:(a0 == 11)=false:=beq_eq_false_iff_ne.mpr c6
     have c6b1:(a0 != 11)=true:=bne_iff_ne.mpr c6
     by_cases c7:a0=12
     ·rw [if_pos c7] at H
      have c7b0:(a0 == 12)=true:=beq_iff_eq.mpr c7
      have c7b1:(a0 != 12)=false:=bne_eq_false_iff_eq.mpr c7
      clear c7
      have H':=aK_ H
      clear H
      go_wp2
      go_meet
      case rel=>exact ⟨_,((a0 == 12)),(by first|rfl|(simp;done)|(simp [*];done)),H',⟨by first|omega|exact Nat.le_refl _⟩,by repeat (first|exact zAk.refl _|apply zAk.step)⟩
     ·rw [if_neg c7] at H
      have c7b0:(a0 == 12)=false:=beq_eq_false_iff_ne.mpr c7
      have c7b1:(a0 != 12)=true:=bne_iff_ne.mpr c7
      have H':=aK_ H
      clear H
      go_wp2
      go_meet
      case rel=>exact ⟨_,((a0 == 16)),(by first|rfl|(simp;done)|(simp [*];done)),H',⟨by first|omega|exact Nat.le_refl _⟩,by repeat (first|exact zAk.refl _|apply zAk.step)⟩
 case rest =>
  clear HC3
  try clear p2
  try clear c4
  try clear c4b0
  try clear c4b1
  try clear c5
  try clear c5b0
  try clear c5b1
  try clear c6
  try clear c6b0
  try clear c6b1
  try clear c7
  try clear c7b0
  try clear c7b1
  obtain ⟨kq,x6_2,rfl,HA,HJ2,⟨mc2,rfl⟩⟩:=hcut
  cases kq with
  |zero=>exact absurd HA.out (by simp [zAY.j0])
  |succ kj2 =>
   have H:=HA.out
   clear HA
   simp only [zAY.j0] at H
   by_cases c8:x6_2=true
   ·subst c8
    have H1:(some 1000000000000)=some r:=by rw [if_pos rfl] at H;exact H
    clear H
    have H:=H1
    clear H1
    obtain rfl:=Option.some.inj H
    go_wp2
    go_ret
    exact ⟨by first|rfl|(simp;done)|(simp [*];done),by repeat (first|exact zAk.refl _|apply zAk.step)⟩
   ·replace c8:=Bool.eq_false_iff.mpr c8
    subst c8
    have H1:(if a0=3 then (zAY.j1 kj2 a1 a0 (a0 == 3)) else (zAY.j1 kj2 a1 a0 (a0 == 4)))=some r:=by rw [if_neg (show ¬ (false=true) by decide)] at H;exact H
    clear H
    have H:=H1
    clear H1
    have HC9:=aK_ H
    clear H
    go_upto_if 12 with (fail)
    go_cut [12] (fun v12 wc=>∃ (kq:Nat) (x12_8:Bool),v12 = .bool x12_8∧zAa (zAY.j1 kq a1 a0 x12_8=some r)∧zAa (kq≤kj2)∧zAk w wc)
    case first =>
     have H:=HC9.out
     clear HC9
     by_cases c10:a0=3
     ·rw [if_pos c10] at H
      have c10b0:(a0 == 3)=true:=beq_iff_eq.mpr c10
      have c10b1:(a0 != 3)=false:=bne_eq_false_iff_eq.mpr c10
      clear c10
      (first|rw [c10b0]|(simp only [i64_w,i32_w];rw [c10b0])|skip)
      have H':=aK_ H
      clear H
      go_wp2
      go_meet
      case rel=>exact ⟨_,((a0 == 3)),(by first|rfl|(simp;done)|(simp [*];done)),H',⟨by have:=HJ2.out;first|omega|exact Nat.le_refl _⟩,by repeat (first|exact zAk.refl _|apply zAk.step)⟩
     ·rw [if_neg c10] at H
      have c10b0:(a0 == 3)=false:=beq_eq_false_iff_ne.mpr c10
      have c10b1:(a0 != 3)=true:=bne_iff_ne.mpr c10
      (first|rw [c10b0]|(simp only [i64_w,i32_w];rw [c10b0])|skip)
      have H':=aK_ H
      clear H
      go_wp2
      go_meet
      case rel=>exact ⟨_,((a0 == 4)),(by first|rfl|(simp;done)|(simp [*];done)),H',⟨by have:=HJ2.out;first|omega|exact Nat.le_refl _⟩,by repeat (first|exact zAk.refl _|apply zAk.step)⟩
    case rest =>
     clear HC9
     try clear c1
     try clear c2
     try clear p2
     try clear c4
     try clear c4b0
     try clear c4b1
     try clear c5
     try clear c5b0
     try clear c5b1
     try clear c6
     try clear c6b0
     try clear c6b1
     try clear c7
     try clear c7b0
     try clear c7b1
     try clear c8
     try clear c10
     try clear c10b0
     try clear c10b1
     try clear p2
     obtain ⟨kq,x12_8,rfl,HA,HJ8,⟨mc8,rfl⟩⟩:=hcut
     cases kq with
     |zero=>exact absurd HA.out (by simp [zAY.j1])
     |succ kj8 =>
      have H:=HA.out
      clear HA
      simp only [zAY.j1] at H
      by_cases c11:x12_8=true
      ·subst c11
       have H1:(some (wrap64 (a1 - 1)))=some r:=by rw [if_pos rfl] at H;exact H
       clear H
       have H:=H1
       clear H1
       obtain rfl:=Option.some.inj H
       go_wp2
       go_ret
       exact ⟨by first|rfl|(simp;done)|(simp [*];done),by repeat (first|exact zAk.refl _|apply zAk.step)⟩
      ·replace c11:=Bool.eq_false_iff.mpr c11
       subst c11
       have H1:(if a0=15 then (some 10000) else (some 0))=some r:=by rw [if_neg (show ¬ (false=true) by decide)] at H;exact H
       clear H
       have H:=H1
       clear H1
       by_cases c12:a0=15
       ·rw [if_pos c12] at H
        have c12b0:(a0 == 15)=true:=beq_iff_eq.mpr c12
        have c12b1:(a0 != 15)=false:=bne_eq_false_iff_eq.mpr c12
        clear c12
        obtain rfl:=Option.some.inj H
        go_wp2
        go_ret
        exact ⟨by first|rfl|(simp;done)|(simp [*];done),by repeat (first|exact zAk.refl _|apply zAk.step)⟩
       ·rw [if_neg c12] at H
        have c12b0:(a0 == 15)=false:=beq_eq_false_iff_ne.mpr c12
        have c12b1:(a0 != 15)=true:=bne_iff_ne.mpr c12
        obtain rfl:=Option.some.inj H
        go_wp2
        go_ret
        exact ⟨by first|rfl|(simp;done)|(simp [*];done),by repeat (first|exact zAk.refl _|apply zAk.step)⟩
end Go.Proofs.YthbnigjckjkmnaaDoor.S

namespace Go.Proofs.YthbnigjckjkmnaaDoor.S
open Go.RowKit Go.Proofs.YthbnigjckjkmnaaDoorW.PrintWords Go.Proofs.YthbnigjckjkmnaaDoorW.PrintLast Go.Proofs.YthbnigjckjkmnaaDoorW.PrintMore
attribute [local go_sem] max2_int min2_int max_two min_two max_three min_three max_four min_four
mutual
def zAU.j0:Nat→Bool→Int→Int→Int→Int→List (S45)→Int→Option (Bool)
 |0,_,_,_,_,_,_,_=>none
 |k+1,x16,x203000,x203001,x203002,x203003,x203004,x203005=>if x16=true then (some false) else (if x203000=16 then (if x203002<1 then (some false) else (if x203002 > 6 then (some false) else (zAU.j1 k x203000 x203001 x203002 x203003 x203004 x203005))) else (if x203002=0 then (zAU.j1 k x203000 x203001 x203002 x203003 x203004 x203005) else (some false)))
def zAU.j1:Nat→Int→Int→Int→Int→List (S45)→Int→Option (Bool)
 |0,_,_,_,_,_,_=>none
 |k+1,x203000,x203001,x203002,x203003,x203004,x203005=>if x203000=9 then (zAU.j2 k true x203000 x203001 x203002 x203003 x203004 x203005) else (zAU.j2 k (x203000 == 10) x203000 x203001 x203002 x203003 x203004 x203005)
def zAU.j2:Nat→Bool→Int→Int→Int→Int→List (S45)→Int→Option (Bool)
 |0,_,_,_,_,_,_,_=>none
 |k+1,x38,x203000,x203001,x203002,x203003,x203004,x203005=>if x38=true then (if x203003<2 then (some false) else (if x203003 > 16 then (some false) else (if x203000=13 then (some true) else (if x203000=14 then (some true) else (some ((x203004.length:Int) == 0)))))) else (if x203003=0 then (if x203000=13 then (some true) else (if x203000=14 then (some true) else (some ((x203004.length:Int) == 0)))) else (some false))
end
def zAU.f (k:Nat) (a0_0:Int) (a0_1:Int) (a0_2:Int) (a0_3:Int) (l0_4:List (S45)) (a0_5:Int) (a1:Int):Option (Bool):=if a0_1<0 then (zAU.j0 k true a0_0 a0_1 a0_2 a0_3 l0_4 a0_5) else ((zAY.f k a0_0 a1).bind fun t203=>(zAU.j0 k (decide (a0_1 > t203)) a0_0 a0_1 a0_2 a0_3 l0_4 a0_5))
theorem zAU.mono_l:∀ k,(∀ y0 y1 y2 y3 y4 y5 y6,LeO (zAU.j0 k y0 y1 y2 y3 y4 y5 y6) (zAU.j0 (k+1) y0 y1 y2 y3 y4 y5 y6))∧(∀ y0 y1 y2 y3 y4 y5,LeO (zAU.j1 k y0 y1 y2 y3 y4 y5) (zAU.j1 (k+1) y0 y1 y2 y3 y4 y5))∧(∀ y0 y1 y2 y3 y4 y5 y6,LeO (zAU.j2 k y0 y1 y2 y3 y4 y5 y6) (zAU.j2 (k+1) y0 y1 y2 y3 y4 y5 y6))
 |0=>⟨fun _ _ _ _ _ _ _ r h=>by simp [zAU.j0] at h,fun _ _ _ _ _ _ r h=>by simp [zAU.j1] at h,fun _ _ _ _ _ _ _ r h=>by simp [zAU.j2] at h⟩
 |k+1=>by
  obtain ⟨ih0,ih1,ih2⟩:=zAU.mono_l k
  refine ⟨?_,?_,?_⟩
  ·intro y0 y1 y2 y3 y4 y5 y6
   unfold zAU.j0
   repeat' first
   |(with_reducible exact ih0 _ _ _ _ _ _ _)
   |(with_reducible exact ih1 _ _ _ _ _ _)
   |(with_reducible exact ih2 _ _ _ _ _ _ _)
   |(with_reducible exact zAY.mono _ _ _)
   |(with_reducible exact LeO.refl _)
   |(with_reducible exact LeO.none _)
   |(with_reducible refine LeO.ite ?_ ?_)
   |(with_reducible refine LeO.bind ?_ (fun _=>?_))
   |exact ih0 _ _ _ _ _ _ _
   |exact ih1 _ _ _ _ _ _
   |exact ih2 _ _ _ _ _ _ _
   |exact zAY.mono _ _ _
   |exact LeO.none _
   |refine LeO.ite ?_ ?_
   |refine LeO.bind ?_ (fun _=>?_)
  ·intro y0 y1 y2 y3 y4 y5
   unfold zAU.j1
   repeat' first
   |(with_reducible exact ih0 _ _ _ _ _ _ _)
   |(with_reducible exact ih1 _ _ _ _ _ _)
   |(with_reducible exact ih2 _ _ _ _ _ _ _)
   |(with_reducible exact zAY.mono _ _ _)
   |(with_reducible exact LeO.refl _)
   |(with_reducible exact LeO.none _)
   |(with_reducible refine LeO.ite ?_ ?_)
   |(with_reducible refine LeO.bind ?_ (fun _=>?_))
   |exact ih0 _ _ _ _ _ _ _
   |exact ih1 _ _ _ _ _ _
   |exact ih2 _ _ _ _ _ _ _
   |exact zAY.mono _ _ _
   |exact LeO.none _
   |refine LeO.ite ?_ ?_
   |refine LeO.bind ?_ (fun _=>?_)
  ·intro y0 y1 y2 y3 y4 y5 y6
   unfold zAU.j2
   repeat' first
   |(with_reducible exact ih0 _ _ _ _ _ _ _)
   |(with_reducible exact ih1 _ _ _ _ _ _)
   |(with_reducible exact ih2 _ _ _ _ _ _ _)
   |(with_reducible exact zAY.mono _ _ _)
   |(with_reducible exact LeO.refl _)
   |(with_reducible exact LeO.none _)
   |(with_reducible refine LeO.ite ?_ ?_)
   |(with_reducible refine LeO.bind ?_ (fun _=>?_))
   |exact ih0 _ _ _ _ _ _ _
   |exact ih1 _ _ _ _ _ _
   |exact ih2 _ _ _ _ _ _ _
   |exact zAY.mono _ _ _
   |exact LeO.none _
   |refine LeO.ite ?_ ?_
   |refine LeO.bind ?_ (fun _=>?_)
theorem zAU.mono:∀ a0 a1 a2 a3 a4 a5 a6 k,LeO (zAU.f k a0 a1 a2 a3 a4 a5 a6) (zAU.f (k+1) a0 a1 a2 a3 a4 a5 a6):=by
 intro a0 a1 a2 a3 a4 a5 a6 k
 obtain ⟨ih0,ih1,ih2⟩:=zAU.mono_l k
 unfold zAU.f
 repeat' first
   |(with_reducible exact ih0 _ _ _ _ _ _ _)
   |(with_reducible exact ih1 _ _ _ _ _ _)
   |(with_reducible exact ih2 _ _ _ _ _ _ _)
   |(with_reducible exact zAY.mono _ _ _)
   |(with_reducible exact LeO.refl _)
   |(with_reducible exact LeO.none _)
   |(with_reducible refine LeO.ite ?_ ?_)
   |(with_reducible refine LeO.bind ?_ (fun _=>?_))
   |exact ih0 _ _ _ _ _ _ _
   |exact ih1 _ _ _ _ _ _
   |exact ih2 _ _ _ _ _ _ _
   |exact zAY.mono _ _ _
   |exact LeO.none _
   |refine LeO.ite ?_ ?_
   |refine LeO.bind ?_ (fun _=>?_)
set_option maxHeartbeats 8000000 in
set_option maxRecDepth 100000 in
theorem zAU.calls (k:Nat) (a0_0:Int) (a0_1:Int) (a0_2:Int) (a0_3:Int) (A0_4:Option Addr) (c0_4:Nat) (l0_4:List (S45)) (a0_5:Int) (a1:Int) (r:Bool) (w:World) (hr0_4:Kd.C k45 w A0_4 l0_4.length l0_4) (hc0_4:l0_4.length≤c0_4) (h:zAU.f k a0_0 a0_1 a0_2 a0_3 l0_4 a0_5 a1=some r) :
  Calls Tryd.prog 41 #[.agg #[.int .i64 a0_0,.int .i64 a0_1,.int .i64 a0_2,.int .i64 a0_3,.slice A0_4 l0_4.length c0_4,.int .i64 a0_5],.int .i64 a1] w fun e w'=>e = .returned (.bool r)∧Below w.heap.size w w':=by
 have hu33:=Tryd.underlying33
 have HR0_4:=aK_ hr0_4
 have HC0_4:=aK_ hc0_4
 clear hr0_4 hc0_4
 have HB:=aK_ (Below.refl w.heap.size w)
 have H:(if a0_1<0 then (zAU.j0 k true a0_0 a0_1 a0_2 a0_3 l0_4 a0_5) else ((zAY.f k a0_0 a1).bind fun t203=>(zAU.j0 k (decide (a0_1 > t203)) a0_0 a0_1 a0_2 a0_3 l0_4 a0_5)))=some r:=h
 clear h
 have HC3:=aK_ H
 clear H
 go_enter Tryd.func41,Tryd.ntmps41
 go_upto_region 1 with (first|((with_reducible refine zAf (N:=2) rfl ?_);(try (refine gate_guard (by rfl) ?_;dsimp only));refine zAc ?hg (N:=2) ?hd (cs:=#[.int .i64 a0_0,.int .i64 a0_1,.int .i64 a0_2,.int .i64 a0_3,.slice A0_4 l0_4.length c0_4,.int .i64 a0_5]) (t:=33) ?hr ?_;(case hd=>rfl);(case hg=>rfl);(case hr=>first|(go_simp;done)|(go_simp;rfl));intro gb202 hg w4 hbox hb;have n0_:=aK_ (zAL (by repeat (first|(with_reducible first|exact HB.out|apply zAB|apply zAA|apply zAC)|exact HB.out)) hb);have n1_:=aK_ (hbox);have n2_:=aK_ ((by rw [hg];exact (zAK (by repeat (first|(with_reducible first|exact HB.out|apply zAB|apply zAA|apply zAC)|exact HB.out))):w.heap.size≤gb202));have n3_:=aK_ ((by rw [hg];exact (zAK (by repeat (first|(with_reducible first|exact HB.out|apply zAB|apply zAA|apply zAC)|exact HB.out))):w.heap.size≤gb202));clear HB;have HB:=n0_;have BK202:=n1_;have GW202:=n2_;have GE202:=n3_;clear n0_ n1_ n2_ n3_;clear hb hbox hg))
 repeat (go_quiet (first|((with_reducible refine zAf (N:=2) rfl ?_);(try (refine gate_guard (by rfl) ?_;dsimp only));refine zAc ?hg (N:=2) ?hd (cs:=#[.int .i64 a0_0,.int .i64 a0_1,.int .i64 a0_2,.int .i64 a0_3,.slice A0_4 l0_4.length c0_4,.int .i64 a0_5]) (t:=33) ?hr ?_;(case hd=>rfl);(case hg=>rfl);(case hr=>first|(go_simp;done)|(go_simp;rfl));intro gb202 hg w4 hbox hb;have n0_:=aK_ (zAL (by repeat (first|(with_reducible first|exact HB.out|apply zAB|apply zAA|apply zAC)|exact HB.out)) hb);have n1_:=aK_ (hbox);have n2_:=aK_ ((by rw [hg];exact (zAK (by repeat (first|(with_reducible first|exact HB.out|apply zAB|apply zAA|apply zAC)|exact HB.out))):w.heap.size≤gb202));have n3_:=aK_ ((by rw [hg];exact (zAK (by repeat (first|(with_reducible first|exact HB.out|apply zAB|apply zAA|apply zAC)|exact HB.out))):w.heap.size≤gb202));clear HB;have HB:=n0_;have BK202:=n1_;have GW202:=n2_;have GE202:=n3_;clear n0_ n1_ n2_ n3_;clear hb hbox hg));go_upto_region 1 with (first|((with_reducible refine zAf (N:=2) rfl ?_);(try (refine gate_guard (by rfl) ?_;dsimp only));refine zAc ?hg (N:=2) ?hd (cs:=#[.int .i64 a0_0,.int .i64 a0_1,.int .i64 a0_2,.int .i64 a0_3,.slice A0_4 l0_4.length c0_4,.int .i64 a0_5]) (t:=33) ?hr ?_;(case hd=>rfl);(case hg=>rfl);(case hr=>first|(go_simp;done)|(go_simp;rfl));intro gb202 hg w4 hbox hb;have n0_:=aK_ (zAL (by repeat (first|(with_reducible first|exact HB.out|apply zAB|apply zAA|apply zAC)|exact HB.out)) hb);have n1_:=aK_ (hbox);have n2_:=aK_ ((by rw [hg];exact (zAK (by repeat (first|(with_reducible first|exact HB.out|apply zAB|apply zAA|apply zAC)|exact HB.out))):w.heap.size≤gb202));have n3_:=aK_ ((by rw [hg];exact (zAK (by repeat (first|(with_reducible first|exact HB.out|apply zAB|apply zAA|apply zAC)|exact HB.out))):w.heap.size≤gb202));clear HB;have HB:=n0_;have BK202:=n1_;have GW202:=n2_;have GE202:=n3_;clear n0_ n1_ n2_ n3_;clear hb hbox hg)))
 (try simp only [Act.put,List.setIfInBounds_toArray,List.set_cons_zero,List.set_cons_succ])
 go_cut [16] (fun v16 wc=>∃ (kq:Nat) (x16_2:Bool),v16 = .bool x16_2∧zAa (zAU.j0 kq x16_2 a0_0 a0_1 a0_2 a0_3 l0_4 a0_5=some r)∧zAa (kq≤k)∧zAa (wc.heap[gb202]?=some (.cells #[.int .i64 a0_0,.int .i64 a0_1,.int .i64 a0_2,.int .i64 a0_3,(.slice A0_4 l0_4.length c0_4),.int .i64 a0_5] 33 (0,0)))∧zAa (Below w.heap.size w wc))
 case first =>
  have H:=HC3.out
  clear HC3
  by_cases c5:a0_1<0
  ·rw [if_pos c5] at H
   have c5b0:decide (a0_1<0)=true:=decide_eq_true c5
   clear c5
   (first|rw [c5b0]|(simp only [i64_w,i32_w];rw [c5b0])|skip)
   have H':=aK_ H
   clear H
   have hcz6_0:w4.cell? ⟨gb202,0,none⟩=some (.int .i64 a0_0):=(zAE BK202.out 0).trans rfl
   have hcz6_1:w4.cell? ⟨gb202,1,none⟩=some (.int .i64 a0_1):=(zAE BK202.out 1).trans rfl
   have hcz6_2:w4.cell? ⟨gb202,2,none⟩=some (.int .i64 a0_2):=(zAE BK202.out 2).trans rfl
   have hcz6_3:w4.cell? ⟨gb202,3,none⟩=some (.int .i64 a0_3):=(zAE BK202.out 3).trans rfl
   have hcz6_4:w4.cell? ⟨gb202,4,none⟩=some (.slice A0_4 l0_4.length c0_4):=(zAE BK202.out 4).trans rfl
   have hcz6_5:w4.cell? ⟨gb202,5,none⟩=some (.int .i64 a0_5):=(zAE BK202.out 5).trans rfl
   have hfz6_0:=zAD BK202.out 0
   have hfz6_1:=zAD BK202.out 1
   have hfz6_2:=zAD BK202.out 2
   have hfz6_3:=zAD BK202.out 3
   have hfz6_4:=zAD BK202.out 4
   have hfz6_5:=zAD BK202.out 5
   go_wp2
   repeat (go_quiet (fail);try go_wp2)
   go_meet
   case rel=>exact ⟨_,(true),(by first|rfl|(simp;done)|(simp [*];done)),H',⟨by first|omega|exact Nat.le_refl _⟩,⟨by (with_reducible repeat (first|refine zAG ?_ _|refine zAI ?_|refine zAH ?_ _));exact BK202.out⟩,⟨by repeat (first|(with_reducible first|exact HB.out|apply zAB|apply zAA|apply zAC|refine zAF ?_ GE202.out)|exact HB.out)⟩⟩
  ·rw [if_neg c5] at H
   have c5b0:decide (a0_1<0)=false:=decide_eq_false c5
   clear c5
   (first|rw [c5b0]|(simp only [i64_w,i32_w];rw [c5b0])|skip)
   replace H:=Option.bind_eq_some_iff.mp H
   obtain ⟨t203,A70,H⟩:=H
   replace H:(zAU.j0 k (decide (a0_1 > t203)) a0_0 a0_1 a0_2 a0_3 l0_4 a0_5)=some r:=H
   have A7:=aK_ A70
   clear A70
   have H':=aK_ H
   clear H
   have hcz8_0:w4.cell? ⟨gb202,0,none⟩=some (.int .i64 a0_0):=(zAE BK202.out 0).trans rfl
   have hcz8_1:w4.cell? ⟨gb202,1,none⟩=some (.int .i64 a0_1):=(zAE BK202.out 1).trans rfl
   have hcz8_2:w4.cell? ⟨gb202,2,none⟩=some (.int .i64 a0_2):=(zAE BK202.out 2).trans rfl
   have hcz8_3:w4.cell? ⟨gb202,3,none⟩=some (.int .i64 a0_3):=(zAE BK202.out 3).trans rfl
   have hcz8_4:w4.cell? ⟨gb202,4,none⟩=some (.slice A0_4 l0_4.length c0_4):=(zAE BK202.out 4).trans rfl
   have hcz8_5:w4.cell? ⟨gb202,5,none⟩=some (.int .i64 a0_5):=(zAE BK202.out 5).trans rfl
   have hfz8_0:=zAD BK202.out 0
   have hfz8_1:=zAD BK202.out 1
   have hfz8_2:=zAD BK202.out 2
   have hfz8_3:=zAD BK202.out 3
   have hfz8_4:=zAD BK202.out 4
   have hfz8_5:=zAD BK202.out 5
   go_wp2_with (first|(go_at_call 60;(with_reducible refine (zAY.calls k a0_0 a1 t203 _ A7.out).mono ?_);rintro e w' ⟨rfl,⟨nd,rfl⟩⟩;(try first|exact ⟨rfl,_,World.drewN_drewN _ _ _⟩|exact ⟨rfl,_,Eq.trans (World.drewN_drewN _ _ _) (congrArg (World.drewN _) (Nat.add_assoc _ _ _))⟩)))
   repeat (go_quiet (first|(go_at_call 60;(with_reducible refine (zAY.calls k a0_0 a1 t203 _ A7.out).mono ?_);rintro e w' ⟨rfl,⟨nd,rfl⟩⟩;(try first|exact ⟨rfl,_,World.drewN_drewN _ _ _⟩|exact ⟨rfl,_,Eq.trans (World.drewN_drewN _ _ _) (congrArg (World.drewN _) (Nat.add_assoc _ _ _))⟩)));try go_wp2_with (first|(go_at_call 60;(with_reducible refine (zAY.calls k a0_0 a1 t203 _ A7.out).mono ?_);rintro e w' ⟨rfl,⟨nd,rfl⟩⟩;(try first|exact ⟨rfl,_,World.drewN_drewN _ _ _⟩|exact ⟨rfl,_,Eq.trans (World.drewN_drewN _ _ _) (congrArg (World.drewN _) (Nat.add_assoc _ _ _))⟩))))
   go_meet
   case rel=>exact ⟨_,(decide (a0_1 > t203)),(by first|rfl|(simp;done)|(simp [*];done)),H',⟨by first|omega|exact Nat.le_refl _⟩,⟨by (with_reducible repeat (first|refine zAG ?_ _|refine zAI ?_|refine zAH ?_ _));exact BK202.out⟩,⟨by repeat (first|(with_reducible first|exact HB.out|apply zAB|apply zAA|apply zAC|refine zAF ?_ GE202.out)|exact HB.out)⟩⟩
 case rest =>
  clear HC3
  try clear p2
  try clear c4
  try clear c5
  try clear c5b0
  try clear hcz6_0
  try clear hcz6_1
  try clear hcz6_2
  try clear hcz6_3
  try clear hcz6_4
  try clear hcz6_5
  try clear hcz8_0
  try clear hcz8_1
  try clear hcz8_2
  try clear hcz8_3
  try clear hcz8_4
  try clear hcz8_5
  try clear hfz6_0
  try clear hfz6_1
  try clear hfz6_2
  try clear hfz6_3
  try clear hfz6_4
  try clear hfz6_5
  try clear hfz8_0
  try clear hfz8_1
  try clear hfz8_2
  try clear hfz8_3
  try clear hfz8_4
  try clear hfz8_5
  obtain ⟨kq,x16_2,rfl,HA,HJ2,BK202,HB⟩:=hcut
  cases kq with
  |zero=>exact absurd HA.out (by simp [zAU.j0])
  |succ kj2 =>
   have H:=HA.out
   clear HA
   simp only [zAU.j0] at H
   by_cases c9:x16_2=true
   ·subst c9
    have H1:(some false)=some r:=by rw [if_pos rfl] at H;exact H
    clear H
    have H:=H1
    clear H1
    obtain rfl:=Option.some.inj H
    go_wp2
    repeat (go_quiet (fail);try go_wp2)
    go_ret
    exact ⟨by first|rfl|(simp [zAQ,zAP] <;> rfl)|(simp [*,zAQ,zAP] <;> rfl),by repeat (first|(with_reducible first|exact HB.out|apply zAB|apply zAA|apply zAC|refine zAF ?_ GE202.out)|exact HB.out)⟩
   ·replace c9:=Bool.eq_false_iff.mpr c9
    subst c9
    have H1:(if a0_0=16 then (if a0_2<1 then (some false) else (if a0_2 > 6 then (some false) else (zAU.j1 kj2 a0_0 a0_1 a0_2 a0_3 l0_4 a0_5))) else (if a0_2=0 then (zAU.j1 kj2 a0_0 a0_1 a0_2 a0_3 l0_4 a0_5) else (some false)))=some r:=by rw [if_neg (show ¬ (false=true) by decide)] at H;exact H
    clear H
    have H:=H1
    clear H1
    have HC10:=aK_ H
    clear H
    have hcz11_0:wc.cell? ⟨gb202,0,none⟩=some (.int .i64 a0_0):=(zAE BK202.out 0).trans rfl
    have hcz11_1:wc.cell? ⟨gb202,1,none⟩=some (.int .i64 a0_1):=(zAE BK202.out 1).trans rfl
    have hcz11_2:wc.cell? ⟨gb202,2,none⟩=some (.int .i64 a0_2):=(zAE BK202.out 2).trans rfl
    have hcz11_3:wc.cell? ⟨gb202,3,none⟩=some (.int .i64 a0_3):=(zAE BK202.out 3).trans rfl
    have hcz11_4:wc.cell? ⟨gb202,4,none⟩=some (.slice A0_4 l0_4.length c0_4):=(zAE BK202.out 4).trans rfl
    have hcz11_5:wc.cell? ⟨gb202,5,none⟩=some (.int .i64 a0_5):=(zAE BK202.out 5).trans rfl
    have hfz11_0:=zAD BK202.out 0
    have hfz11_1:=zAD BK202.out 1
    have hfz11_2:=zAD BK202.out 2
    have hfz11_3:=zAD BK202.out 3
    have hfz11_4:=zAD BK202.out 4
    have hfz11_5:=zAD BK202.out 5
    go_upto_if 19 with (fail)
    repeat (go_quiet (fail);go_upto_if 19 with (fail))
    go_cut [] (fun wc=>∃ (kq:Nat),zAa (zAU.j1 kq a0_0 a0_1 a0_2 a0_3 l0_4 a0_5=some r)∧zAa (kq≤kj2)∧zAa (wc.heap[gb202]?=some (.cells #[.int .i64 a0_0,.int .i64 a0_1,.int .i64 a0_2,.int .i64 a0_3,(.slice A0_4 l0_4.length c0_4),.int .i64 a0_5] 33 (0,0)))∧zAa (Below w.heap.size w wc))
    case first =>
     have H:=HC10.out
     clear HC10
     by_cases c12:a0_0=16
     ·rw [if_pos c12] at H
      have c12b0:(a0_0 == 16)=true:=beq_iff_eq.mpr c12
      have c12b1:(a0_0 != 16)=false:=bne_eq_false_iff_eq.mpr c12
      clear c12
      (first|rw [c12b0]|(simp only [i64_w,i32_w];rw [c12b0])|skip)
      by_cases c13:a0_2<1
      ·rw [if_pos c13] at H
       have c13b0:decide (a0_2<1)=true:=decide_eq_true c13
       clear c13
       obtain rfl:=Option.some.inj H
       have hcz14_0:wc.cell? ⟨gb202,0,none⟩=some (.int .i64 a0_0):=(zAE BK202.out 0).trans rfl
       have hcz14_1:wc.cell? ⟨gb202,1,none⟩=some (.int .i64 a0_1):=(zAE BK202.out 1).trans rfl
       have hcz14_2:wc.cell? ⟨gb202,2,none⟩=some (.int .i64 a0_2):=(zAE BK202.out 2).trans rfl
       have hcz14_3:wc.cell? ⟨gb202,3,none⟩=some (.int .i64 a0_3):=(zAE BK202.out 3).trans rfl
       have hcz14_4:wc.cell? ⟨gb202,4,none⟩=some (.slice A0_4 l0_4.length c0_4):=(zAE BK202.out 4).trans rfl
       have hcz14_5:wc.cell? ⟨gb202,5,none⟩=some (.int .i64 a0_5):=(zAE BK202.out 5).trans rfl
       have hfz14_0:=zAD BK202.out 0
       have hfz14_1:=zAD BK202.out 1
       have hfz14_2:=zAD BK202.out 2
       have hfz14_3:=zAD BK202.out 3
       have hfz14_4:=zAD BK202.out 4
       have hfz14_5:=zAD BK202.out 5
       go_wp2
       repeat (go_quiet (fail);try go_wp2)
       go_ret
       exact ⟨by first|rfl|(simp [zAQ,zAP] <;> rfl)|(simp [*,zAQ,zAP] <;> rfl),by repeat (first|(with_reducible first|exact HB.out|apply zAB|apply zAA|apply zAC|refine zAF ?_ GE202.out)|exact HB.out)⟩
      ·rw [if_neg c13] at H
       have c13b0:decide (a0_2<1)=false:=decide_eq_false c13
       clear c13
       by_cases c15:a0_2 > 6
       ·rw [if_pos c15] at H
        have c15b0:decide (6<a0_2)=true:=decide_eq_true c15
        clear c15
        obtain rfl:=Option.some.inj H
        have hcz16_0:wc.cell? ⟨gb202,0,none⟩=some (.int .i64 a0_0):=(zAE BK202.out 0).trans rfl
        have hcz16_1:wc.cell? ⟨gb202,1,none⟩=some (.int .i64 a0_1):=(zAE BK202.out 1).trans rfl
        have hcz16_2:wc.cell? ⟨gb202,2,none⟩=some (.int .i64 a0_2):=(zAE BK202.out 2).trans rfl
        have hcz16_3:wc.cell? ⟨gb202,3,none⟩=some (.int .i64 a0_3):=(zAE BK202.out 3).trans rfl
        have hcz16_4:wc.cell? ⟨gb202,4,none⟩=some (.slice A0_4 l0_4.length c0_4):=(zAE BK202.out 4).trans rfl
        have hcz16_5:wc.cell? ⟨gb202,5,none⟩=some (.int .i64 a0_5):=(zAE BK202.out 5).trans rfl
        have hfz16_0:=zAD BK202.out 0
        have hfz16_1:=zAD BK202.out 1
        have hfz16_2:=zAD BK202.out 2
        have hfz16_3:=zAD BK202.out 3
        have hfz16_4:=zAD BK202.out 4
        have hfz16_5:=zAD BK202.out 5
        go_wp2
        repeat (go_quiet (fail);try go_wp2)
        go_ret
        exact ⟨by first|rfl|(simp [zAQ,zAP] <;> rfl)|(simp [*,zAQ,zAP] <;> rfl),by repeat (first|(with_reducible first|exact HB.out|apply zAB|apply zAA|apply zAC|refine zAF ?_ GE202.out)|exact HB.out)⟩
       ·rw [if_neg c15] at H
        have c15b0:decide (6<a0_2)=false:=decide_eq_false c15
        clear c15
        have H':=aK_ H
        clear H
        have hcz17_0:wc.cell? ⟨gb202,0,none⟩=some (.int .i64 a0_0):=(zAE BK202.out 0).trans rfl
        have hcz17_1:wc.cell? ⟨gb202,1,none⟩=some (.int .i64 a0_1):=(zAE BK202.out 1).trans rfl
        have hcz17_2:wc.cell? ⟨gb202,2,none⟩=some (.int .i64 a0_2):=(zAE BK202.out 2).trans rfl
        have hcz17_3:wc.cell? ⟨gb202,3,none⟩=some (.int .i64 a0_3):=(zAE BK202.out 3).trans rfl
        have hcz17_4:wc.cell? ⟨gb202,4,none⟩=some (.slice A0_4 l0_4.length c0_4):=(zAE BK202.out 4).trans rfl
        have hcz17_5:wc.cell? ⟨gb202,5,none⟩=some (.int .i64 a0_5):=(zAE BK202.out 5).trans rfl
        have hfz17_0:=zAD BK202.out 0
        have hfz17_1:=zAD BK202.out 1
        have hfz17_2:=zAD BK202.out 2
        have hfz17_3:=zAD BK202.out 3
        have hfz17_4:=zAD BK202.out 4
        have hfz17_5:=zAD BK202.out 5
        go_wp2
        repeat (go_quiet (fail);try go_wp2)
        go_meet
        case rel=>exact ⟨_,H',⟨by have:=HJ2.out;first|omega|exact Nat.le_refl _⟩,⟨by (with_reducible repeat (first|refine zAG ?_ _|refine zAI ?_|refine zAH ?_ _));exact BK202.out⟩,⟨by repeat (first|(with_reducible first|exact HB.out|apply zAB|apply zAA|apply zAC|refine zAF ?_ GE202.out)|exact HB.out)⟩⟩
     ·rw [if_neg c12] at H
      have c12b0:(a0_0 == 16)=false:=beq_eq_false_iff_ne.mpr c12
      have c12b1:(a0_0 != 16)=true:=bne_iff_ne.mpr c12
      (first|rw [c12b0]|(simp only [i64_w,i32_w];rw [c12b0])|skip)
      by_cases c18:a0_2=0
      ·rw [if_pos c18] at H
       have c18b0:(a0_2 == 0)=true:=beq_iff_eq.mpr c18
       have c18b1:(a0_2 != 0)=false:=bne_eq_false_iff_eq.mpr c18
       clear c18
       have H':=aK_ H
       clear H
       have hcz19_0:wc.cell? ⟨gb202,0,none⟩=some (.int .i64 a0_0):=(zAE BK202.out 0).trans rfl
       have hcz19_1:wc.cell? ⟨gb202,1,none⟩=some (.int .i64 a0_1):=(zAE BK202.out 1).trans rfl
       have hcz19_2:wc.cell? ⟨gb202,2,none⟩=some (.int .i64 a0_2):=(zAE BK202.out 2).trans rfl
       have hcz19_3:wc.cell? ⟨gb202,3,none⟩=some (.int .i64 a0_3):=(zAE BK202.out 3).trans rfl
       have hcz19_4:wc.cell? ⟨gb202,4,none⟩=some (.slice A0_4 l0_4.length c0_4):=(zAE BK202.out 4).trans rfl
       have hcz19_5:wc.cell? ⟨gb202,5,none⟩=some (.int .i64 a0_5):=(zAE BK202.out 5).trans rfl
       have hfz19_0:=zAD BK202.out 0
       have hfz19_1:=zAD BK202.out 1
       have hfz19_2:=zAD BK202.out 2
       have hfz19_3:=zAD BK202.out 3
       have hfz19_4:=zAD BK202.out 4
       have hfz19_5:=zAD BK202.out 5
       go_wp2
       repeat (go_quiet (fail);try go_wp2)
       go_meet
       case rel=>exact ⟨_,H',⟨by have:=HJ2.out;first|omega|exact Nat.le_refl _⟩,⟨by (with_reducible repeat (first|refine zAG ?_ _|refine zAI ?_|refine zAH ?_ _));exact BK202.out⟩,⟨by repeat (first|(with_reducible first|exact HB.out|apply zAB|apply zAA|apply zAC|refine zAF ?_ GE202.out)|exact HB.out)⟩⟩
      ·rw [if_neg c18] at H
       have c18b0:(a0_2 == 0)=false:=beq_eq_false_iff_ne.mpr c18
       have c18b1:(a0_2 != 0)=true:=bne_iff_ne.mpr c18
       obtain rfl:=Option.some.inj H
       have hcz20_0:wc.cell? ⟨gb202,0,none⟩=some (.int .i64 a0_0):=(zAE BK202.out 0).trans rfl
       have hcz20_1:wc.cell? ⟨gb202,1,none⟩=some (.int .i64 a0_1):=(zAE BK202.out 1).trans rfl
       have hcz20_2:wc.cell? ⟨gb202,2,none⟩=some (.int .i64 a0_2):=(zAE BK202.out 2).trans rfl
       have hcz20_3:wc.cell? ⟨gb202,3,none⟩=some (.int .i64 a0_3):=(zAE BK202.out 3).trans rfl
       have hcz20_4:wc.cell? ⟨gb202,4,none⟩=some (.slice A0_4 l0_4.length c0_4):=(zAE BK202.out 4).trans rfl
       have hcz20_5:wc.cell? ⟨gb202,5,none⟩=some (.int .i64 a0_5):=(zAE BK202.out 5).trans rfl
       have hfz20_0:=zAD BK202.out 0
       have hfz20_1:=zAD BK202.out 1
       have hfz20_2:=zAD BK202.out 2
       have hfz20_3:=zAD BK202.out 3
       have hfz20_4:=zAD BK202.out 4
       have hfz20_5:=zAD BK202.out 5
       go_wp2
       repeat (go_quiet (fail);try go_wp2)
       go_ret
       exact ⟨by first|rfl|(simp [zAQ,zAP] <;> rfl)|(simp [*,zAQ,zAP] <;> rfl),by repeat (first|(with_reducible first|exact HB.out|apply zAB|apply zAA|apply zAC|refine zAF ?_ GE202.out)|exact HB.out)⟩
    case rest =>
     clear HC10
     try clear c1
     try clear p2
     try clear c4
     try clear c5
     try clear c5b0
     try clear c9
     try clear c12
     try clear c12b0
     try clear c12b1
     try clear c13
     try clear c13b0
     try clear c15
     try clear c15b0
     try clear c18
     try clear c18b0
     try clear c18b1
     try clear hcz11_0
     try clear hcz11_1
     try clear hcz11_2
     try clear hcz11_3
     try clear hcz11_4
     try clear hcz11_5
     try clear hcz14_0
     try clear hcz14_1
     try clear hcz14_2
     try clear hcz14_3
     try clear hcz14_4
     try clear hcz14_5
     try clear hcz16_0
     try clear hcz16_1
     try clear hcz16_2
     try clear hcz16_3
     try clear hcz16_4
     try clear hcz16_5
     try clear hcz17_0
     try clear hcz17_1
     try clear hcz17_2
     try clear hcz17_3
     try clear hcz17_4
     try clear hcz17_5
     try clear hcz19_0
     try clear hcz19_1
     try clear hcz19_2
     try clear hcz19_3
     try clear hcz19_4
     try clear hcz19_5
     try clear hcz20_0
     try clear hcz20_1
     try clear hcz20_2
     try clear hcz20_3
     try clear hcz20_4
     try clear hcz20_5
     try clear hcz6_0
     try clear hcz6_1
     try clear hcz6_2
     try clear hcz6_3
     try clear hcz6_4
     try clear hcz6_5
     try clear hcz8_0
     try clear hcz8_1
     try clear hcz8_2
     try clear hcz8_3
     try clear hcz8_4
     try clear hcz8_5
     try clear hfz11_0
     try clear hfz11_1
     try clear hfz11_2
     try clear hfz11_3
     try clear hfz11_4
     try clear hfz11_5
     try clear hfz14_0
     try clear hfz14_1
     try clear hfz14_2
     try clear hfz14_3
     try clear hfz14_4
     try clear hfz14_5
     try clear hfz16_0
     try clear hfz16_1
     try clear hfz16_2
     try clear hfz16_3
     try clear hfz16_4
     try clear hfz16_5
     try clear hfz17_0
     try clear hfz17_1
     try clear hfz17_2
     try clear hfz17_3
     try clear hfz17_4
     try clear hfz17_5
     try clear hfz19_0
     try clear hfz19_1
     try clear hfz19_2
     try clear hfz19_3
     try clear hfz19_4
     try clear hfz19_5
     try clear hfz20_0
     try clear hfz20_1
     try clear hfz20_2
     try clear hfz20_3
     try clear hfz20_4
     try clear hfz20_5
     try clear hfz6_0
     try clear hfz6_1
     try clear hfz6_2
     try clear hfz6_3
     try clear hfz6_4
     try clear hfz6_5
     try clear hfz8_0
     try clear hfz8_1
     try clear hfz8_2
     try clear hfz8_3
     try clear hfz8_4
     try clear hfz8_5
     try clear p2
     obtain ⟨kq,HA,HJ9,BK202,HB⟩:=hcut
     cases kq with
     |zero=>exact absurd HA.out (by simp [zAU.j1])
     |succ kj9 =>
      have H:=HA.out
      clear HA
      simp only [zAU.j1] at H
      have HC21:=aK_ H
      clear H
      go_upto_region 8 with (fail)
      repeat (go_quiet (fail);go_upto_region 8 with (fail))
      go_cut [38] (fun v38 wc=>∃ (kq:Nat) (x38_20:Bool),v38 = .bool x38_20∧zAa (zAU.j2 kq x38_20 a0_0 a0_1 a0_2 a0_3 l0_4 a0_5=some r)∧zAa (kq≤kj9)∧zAa (wc.heap[gb202]?=some (.cells #[.int .i64 a0_0,.int .i64 a0_1,.int .i64 a0_2,.int .i64 a0_3,(.slice A0_4 l0_4.length c0_4),.int .i64 a0_5] 33 (0,0)))∧zAa (Below w.heap.size w wc))
      case first =>
       have H:=HC21.out
       clear HC21
       by_cases c22:a0_0=9
       ·rw [if_pos c22] at H
        have c22b0:(a0_0 == 9)=true:=beq_iff_eq.mpr c22
        have c22b1:(a0_0 != 9)=false:=bne_eq_false_iff_eq.mpr c22
        clear c22
        (first|rw [c22b0]|(simp only [i64_w,i32_w];rw [c22b0])|skip)
        have H':=aK_ H
        clear H
        have hcz23_0:wc.cell? ⟨gb202,0,none⟩=some (.int .i64 a0_0):=(zAE BK202.out 0).trans rfl
        have hcz23_1:wc.cell? ⟨gb202,1,none⟩=some (.int .i64 a0_1):=(zAE BK202.out 1).trans rfl
        have hcz23_2:wc.cell? ⟨gb202,2,none⟩=some (.int .i64 a0_2):=(zAE BK202.out 2).trans rfl
        have hcz23_3:wc.cell? ⟨gb202,3,none⟩=some (.int .i64 a0_3):=(zAE BK202.out 3).trans rfl
        have hcz23_4:wc.cell? ⟨gb202,4,none⟩=some (.slice A0_4 l0_4.length c0_4):=(zAE BK202.out 4).trans rfl
        have hcz23_5:wc.cell? ⟨gb202,5,none⟩=some (.int .i64 a0_5):=(zAE BK202.out 5).trans rfl
        have hfz23_0:=zAD BK202.out 0
        have hfz23_1:=zAD BK202.out 1
        have hfz23_2:=zAD BK202.out 2
        have hfz23_3:=zAD BK202.out 3
        have hfz23_4:=zAD BK202.out 4
        have hfz23_5:=zAD BK202.out 5
        go_wp2
        repeat (go_quiet (fail);try go_wp2)
        go_meet
        case rel=>exact ⟨_,(true),(by first|rfl|(simp;done)|(simp [*];done)),H',⟨by have:=HJ2.out;have:=HJ9.out;first|omega|exact Nat.le_refl _⟩,⟨by (with_reducible repeat (first|refine zAG ?_ _|refine zAI ?_|refine zAH ?_ _));exact BK202.out⟩,⟨by repeat (first|(with_reducible first|exact HB.out|apply zAB|apply zAA|apply zAC|refine zAF ?_ GE202.out)|exact HB.out)⟩⟩
       ·rw [if_neg c22] at H
        have c22b0:(a0_0 == 9)=false:=beq_eq_false_iff_ne.mpr c22
        have c22b1:(a0_0 != 9)=true:=bne_iff_ne.mpr c22
        (first|rw [c22b0]|(simp only [i64_w,i32_w];rw [c22b0])|skip)
        have H':=aK_ H
        clear H
        have hcz24_0:wc.cell? ⟨gb202,0,none⟩=some (.int .i64 a0_0):=(zAE BK202.out 0).trans rfl
        have hcz24_1:wc.cell? ⟨gb202,1,none⟩=some (.int .i64 a0_1):=(zAE BK202.out 1).trans rfl
        have hcz24_2:wc.cell? ⟨gb202,2,none⟩=some (.int .i64 a0_2):=(zAE BK202.out 2).trans rfl
        have hcz24_3:wc.cell? ⟨gb202,3,none⟩=some (.int .i64 a0_3):=(zAE BK202.out 3).trans rfl
        have hcz24_4:wc.cell? ⟨gb202,4,none⟩=some (.slice A0_4 l0_4.length c0_4):=(zAE BK202.out 4).trans rfl
        have hcz24_5:wc.cell? ⟨gb202,5,none⟩=some (.int .i64 a0_5):=(zAE BK202.out 5).trans rfl
        have hfz24_0:=zAD BK202.out 0
        have hfz24_1:=zAD BK202.out 1
        have hfz24_2:=zAD BK202.out 2
        have hfz24_3:=zAD BK202.out 3
        have hfz24_4:=zAD BK202.out 4
        have hfz24_5:=zAD BK202.out 5
        go_wp2
        repeat (go_quiet (fail);try go_wp2)
        go_meet
        case rel=>exact ⟨_,((a0_0 == 10)),(by first|rfl|(simp;done)|(simp [*];done)),H',⟨by have:=HJ2.out;have:=HJ9.out;first|omega|exact Nat.le_refl _⟩,⟨by (with_reducible repeat (first|refine zAG ?_ _|refine zAI ?_|refine zAH ?_ _));exact BK202.out⟩,⟨by repeat (first|(with_reducible first|exact HB.out|apply zAB|apply zAA|apply zAC|refine zAF ?_ GE202.out)|exact HB.out)⟩⟩
      case rest =>
       clear HC21
       try clear c1
       try clear c2
       try clear p2
       try clear c4
       try clear c5
       try clear c5b0
       try clear c9
       try clear c12
       try clear c12b0
       try clear c12b1
       try clear c13
       try clear c13b0
       try clear c15
       try clear c15b0
       try clear c18
       try clear c18b0
       try clear c18b1
       try clear c22
       try clear c22b0
       try clear c22b1
       try clear hcz11_0
       try clear hcz11_1
       try clear hcz11_2
       try clear hcz11_3
       try clear hcz11_4
       try clear hcz11_5
       try clear hcz14_0
       try clear hcz14_1
       try clear hcz14_2
       try clear hcz14_3
       try clear hcz14_4
       try clear hcz14_5
       try clear hcz16_0
       try clear hcz16_1
       try clear hcz16_2
       try clear hcz16_3
       try clear hcz16_4
       try clear hcz16_5
       try clear hcz17_0
       try clear hcz17_1
       try clear hcz17_2
       try clear hcz17_3
       try clear hcz17_4
       try clear hcz17_5
       try clear hcz19_0
       try clear hcz19_1
       try clear hcz19_2
       try clear hcz19_3
       try clear hcz19_4
       try clear hcz19_5
       try clear hcz20_0
       try clear hcz20_1
       try clear hcz20_2
       try clear hcz20_3
       try clear hcz20_4
       try clear hcz20_5
       try clear hcz23_0
       try clear hcz23_1
       try clear hcz23_2
       try clear hcz23_3
       try clear hcz23_4
       try clear hcz23_5
       try clear hcz24_0
       try clear hcz24_1
       try clear hcz24_2
       try clear hcz24_3
       try clear hcz24_4
       try clear hcz24_5
       try clear hcz6_0
       try clear hcz6_1
       try clear hcz6_2
       try clear hcz6_3
       try clear hcz6_4
       try clear hcz6_5
       try clear hcz8_0
       try clear hcz8_1
       try clear hcz8_2
       try clear hcz8_3
       try clear hcz8_4
       try clear hcz8_5
       try clear hfz11_0
       try clear hfz11_1
       try clear hfz11_2
       try clear hfz11_3
       try clear hfz11_4
       try clear hfz11_5
       try clear hfz14_0
       try clear hfz14_1
       try clear hfz14_2
       try clear hfz14_3
       try clear hfz14_4
       try clear hfz14_5
       try clear hfz16_0
       try clear hfz16_1
       try clear hfz16_2
       try clear hfz16_3
       try clear hfz16_4
       try clear hfz16_5
       try clear hfz17_0
       try clear hfz17_1
       try clear hfz17_2
       try clear hfz17_3
       try clear hfz17_4
       try clear hfz17_5
       try clear hfz19_0
       try clear hfz19_1
       try clear hfz19_2
       try clear hfz19_3
       try clear hfz19_4
       try clear hfz19_5
       try clear hfz20_0
       try clear hfz20_1
       try clear hfz20_2
       try clear hfz20_3
       try clear hfz20_4
       try clear hfz20_5
       try clear hfz23_0
       try clear hfz23_1
       try clear hfz23_2
       try clear hfz23_3
       try clear hfz23_4
       try clear hfz23_5
       try clear hfz24_0
       try clear hfz24_1
       try clear hfz24_2
       try clear hfz24_3
       try clear hfz24_4
       try clear hfz24_5
       try clear hfz6_0
       try clear hfz6_1
       try clear hfz6_2
       try clear hfz6_3
       try clear hfz6_4
       try clear hfz6_5
       try clear hfz8_0
       try clear hfz8_1
       try clear hfz8_2
       try clear hfz8_3
       try clear hfz8_4
       try clear hfz8_5
       try clear p2
       obtain ⟨kq,x38_20,rfl,HA,HJ20,BK202,HB⟩:=hcut
       cases kq with
       |zero=>exact absurd HA.out (by simp [zAU.j2])
       |succ kj20 =>
        have H:=HA.out
        clear HA
        simp only [zAU.j2] at H
        by_cases c25:x38_20=true
        ·subst c25
         have H1:(if a0_3<2 then (some false) else (if a0_3 > 16 then (some false) else (if a0_0=13 then (some true) else (if a0_0=14 then (some true) else (some ((l0_4.length:Int) == 0))))))=some r:=by rw [if_pos rfl] at H;exact H
         clear H
         have H:=H1
         clear H1
         by_cases c26:a0_3<2
         ·rw [if_pos c26] at H
          have c26b0:decide (a0_3<2)=true:=decide_eq_true c26
          clear c26
          obtain rfl:=Option.some.inj H
          have hcz27_0:wc.cell? ⟨gb202,0,none⟩=some (.int .i64 a0_0):=(zAE BK202.out 0).trans rfl
          have hcz27_1:wc.cell? ⟨gb202,1,none⟩=some (.int .i64 a0_1):=(zAE BK202.out 1).trans rfl
          have hcz27_2:wc.cell? ⟨gb202,2,none⟩=some (.int .i64 a0_2):=(zAE BK202.out 2).trans rfl
          have hcz27_3:wc.cell? ⟨gb202,3,none⟩=some (.int .i64 a0_3):=(zAE BK202.out 3).trans rfl
          have hcz27_4:wc.cell? ⟨gb202,4,none⟩=some (.slice A0_4 l0_4.length c0_4):=(zAE BK202.out 4).trans rfl
          have hcz27_5:wc.cell? ⟨gb202,5,none⟩=some (.int .i64 a0_5):=(zAE BK202.out 5).trans rfl
          have hfz27_0:=zAD BK202.out 0
          have hfz27_1:=zAD BK202.out 1
          have hfz27_2:=zAD BK202.out 2
          have hfz27_3:=zAD BK202.out 3
          have hfz27_4:=zAD BK202.out 4
          have hfz27_5:=zAD BK202.out 5
          go_wp2
          repeat (go_quiet (fail);try go_wp2)
          go_ret
          exact ⟨by first|rfl|(simp [zAQ,zAP] <;> rfl)|(simp [*,zAQ,zAP] <;> rfl),by repeat (first|(with_reducible first|exact HB.out|apply zAB|apply zAA|apply zAC|refine zAF ?_ GE202.out)|exact HB.out)⟩
         ·rw [if_neg c26] at H
          have c26b0:decide (a0_3<2)=false:=decide_eq_false c26
          clear c26
          by_cases c28:a0_3 > 16
          ·rw [if_pos c28] at H
           have c28b0:decide (16<a0_3)=true:=decide_eq_true c28
           clear c28
           obtain rfl:=Option.some.inj H
           have hcz29_0:wc.cell? ⟨gb202,0,none⟩=some (.int .i64 a0_0):=(zAE BK202.out 0).trans rfl
           have hcz29_1:wc.cell? ⟨gb202,1,none⟩=some (.int .i64 a0_1):=(zAE BK202.out 1).trans rfl
           have hcz29_2:wc.cell? ⟨gb202,2,none⟩=some (.int .i64 a0_2):=(zAE BK202.out 2).trans rfl
           have hcz29_3:wc.cell? ⟨gb202,3,none⟩=some (.int .i64 a0_3):=(zAE BK202.out 3).trans rfl
           have hcz29_4:wc.cell? ⟨gb202,4,none⟩=some (.slice A0_4 l0_4.length c0_4):=(zAE BK202.out 4).trans rfl
           have hcz29_5:wc.cell? ⟨gb202,5,none⟩=some (.int .i64 a0_5):=(zAE BK202.out 5).trans rfl
           have hfz29_0:=zAD BK202.out 0
           have hfz29_1:=zAD BK202.out 1
           have hfz29_2:=zAD BK202.out 2
           have hfz29_3:=zAD BK202.out 3
           have hfz29_4:=zAD BK202.out 4
           have hfz29_5:=zAD BK202.out 5
           go_wp2
           repeat (go_quiet (fail);try go_wp2)
           go_ret
           exact ⟨by first|rfl|(simp [zAQ,zAP] <;> rfl)|(simp [*,zAQ,zAP] <;> rfl),by repeat (first|(with_reducible first|exact HB.out|apply zAB|apply zAA|apply zAC|refine zAF ?_ GE202.out)|exact HB.out)⟩
          ·rw [if_neg c28] at H
           have c28b0:decide (16<a0_3)=false:=decide_eq_false c28
           clear c28
           by_cases c30:a0_0=13
           ·rw [if_pos c30] at H
            have c30b0:(a0_0 == 13)=true:=beq_iff_eq.mpr c30
            have c30b1:(a0_0 != 13)=false:=bne_eq_false_iff_eq.mpr c30
            clear c30
            obtain rfl:=Option.some.inj H
            have hcz31_0:wc.cell? ⟨gb202,0,none⟩=some (.int .i64 a0_0):=(zAE BK202.out 0).trans rfl
            have hcz31_1:wc.cell? ⟨gb202,1,none⟩=some (.int .i64 a0_1):=(zAE BK202.out 1).trans rfl
            have hcz31_2:wc.cell? ⟨gb202,2,none⟩=some (.int .i64 a0_2):=(zAE BK202.out 2).trans rfl
            have hcz31_3:wc.cell? ⟨gb202,3,none⟩=some (.int .i64 a0_3):=(zAE BK202.out 3).trans rfl
            have hcz31_4:wc.cell? ⟨gb202,4,none⟩=some (.slice A0_4 l0_4.length c0_4):=(zAE BK202.out 4).trans rfl
            have hcz31_5:wc.cell? ⟨gb202,5,none⟩=some (.int .i64 a0_5):=(zAE BK202.out 5).trans rfl
            have hfz31_0:=zAD BK202.out 0
            have hfz31_1:=zAD BK202.out 1
            have hfz31_2:=zAD BK202.out 2
            have hfz31_3:=zAD BK202.out 3
            have hfz31_4:=zAD BK202.out 4
            have hfz31_5:=zAD BK202.out 5
            go_wp2
            repeat (go_quiet (fail);try go_wp2)
            go_ret
            exact ⟨by first|rfl|(simp [zAQ,zAP] <;> rfl)|(simp [*,zAQ,zAP] <;> rfl),by repeat (first|(with_reducible first|exact HB.out|apply zAB|apply zAA|apply zAC|refine zAF ?_ GE202.out)|exact HB.out)⟩
           ·rw [if_neg c30] at H
            have c30b0:(a0_0 == 13)=false:=beq_eq_false_iff_ne.mpr c30
            have c30b1:(a0_0 != 13)=true:=bne_iff_ne.mpr c30
            by_cases c32:a0_0=14
            ·rw [if_pos c32] at H
             have c32b0:(a0_0 == 14)=true:=beq_iff_eq.mpr c32
             have c32b1:(a0_0 != 14)=false:=bne_eq_false_iff_eq.mpr c32
             clear c32
             obtain rfl:=Option.some.inj H
             have hcz33_0:wc.cell? ⟨gb202,0,none⟩=some (.int .i64 a0_0):=(zAE BK202.out 0).trans rfl
             have hcz33_1:wc.cell? ⟨gb202,1,none⟩=some (.int .i64 a0_1):=(zAE BK202.out 1).trans rfl
             have hcz33_2:wc.cell? ⟨gb202,2,none⟩=some (.int .i64 a0_2):=(zAE BK202.out 2).trans rfl
             have hcz33_3:wc.cell? ⟨gb202,3,none⟩=some (.int .i64 a0_3):=(zAE BK202.out 3).trans rfl
             have hcz33_4:wc.cell? ⟨gb202,4,none⟩=some (.slice A0_4 l0_4.length c0_4):=(zAE BK202.out 4).trans rfl
             have hcz33_5:wc.cell? ⟨gb202,5,none⟩=some (.int .i64 a0_5):=(zAE BK202.out 5).trans rfl
             have hfz33_0:=zAD BK202.out 0
             have hfz33_1:=zAD BK202.out 1
             have hfz33_2:=zAD BK202.out 2
             have hfz33_3:=zAD BK202.out 3
             have hfz33_4:=zAD BK202.out 4
             have hfz33_5:=zAD BK202.out 5
             go_wp2
             repeat (go_quiet (fail);try go_wp2)
             go_ret
             exact ⟨by first|rfl|(simp [zAQ,zAP] <;> rfl)|(simp [*,zAQ,zAP] <;> rfl),by repeat (first|(with_reducible first|exact HB.out|apply zAB|apply zAA|apply zAC|refine zAF ?_ GE202.out)|exact HB.out)⟩
            ·rw [if_neg c32] at H
             have c32b0:(a0_0 == 14)=false:=beq_eq_false_iff_ne.mpr c32
             have c32b1:(a0_0 != 14)=true:=bne_iff_ne.mpr c32
             obtain rfl:=Option.some.inj H
             have hcz34_0:wc.cell? ⟨gb202,0,none⟩=some (.int .i64 a0_0):=(zAE BK202.out 0).trans rfl
             have hcz34_1:wc.cell? ⟨gb202,1,none⟩=some (.int .i64 a0_1):=(zAE BK202.out 1).trans rfl
             have hcz34_2:wc.cell? ⟨gb202,2,none⟩=some (.int .i64 a0_2):=(zAE BK202.out 2).trans rfl
             have hcz34_3:wc.cell? ⟨gb202,3,none⟩=some (.int .i64 a0_3):=(zAE BK202.out 3).trans rfl
             have hcz34_4:wc.cell? ⟨gb202,4,none⟩=some (.slice A0_4 l0_4.length c0_4):=(zAE BK202.out 4).trans rfl
             have hcz34_5:wc.cell? ⟨gb202,5,none⟩=some (.int .i64 a0_5):=(zAE BK202.out 5).trans rfl
             have hfz34_0:=zAD BK202.out 0
             have hfz34_1:=zAD BK202.out 1
             have hfz34_2:=zAD BK202.out 2
             have hfz34_3:=zAD BK202.out 3
             have hfz34_4:=zAD BK202.out 4
             have hfz34_5:=zAD BK202.out 5
             go_wp2
             repeat (go_quiet (fail);try go_wp2)
             go_ret
             exact ⟨by first|rfl|(simp [zAQ,zAP] <;> rfl)|(simp [*,zAQ,zAP] <;> rfl),by repeat (first|(with_reducible first|exact HB.out|apply zAB|apply zAA|apply zAC|refine zAF ?_ GE202.out)|exact HB.out)⟩
        ·replace c25:=Bool.eq_false_iff.mpr c25
         subst c25
         have H1:(if a0_3=0 then (if a0_0=13 then (some true) else (if a0_0=14 then (some true) else (some ((l0_4.length:Int) == 0)))) else (some false))=some r:=by rw [if_neg (show ¬ (false=true) by decide)] at H;exact H
         clear H
         have H:=H1
         clear H1
         by_cases c35:a0_3=0
         ·rw [if_pos c35] at H
          have c35b0:(a0_3 == 0)=true:=beq_iff_eq.mpr c35
          have c35b1:(a0_3 != 0)=false:=bne_eq_false_iff_eq.mpr c35
          clear c35
          by_cases c36:a0_0=13
          ·rw [if_pos c36] at H
           have c36b0:(a0_0 == 13)=true:=beq_iff_eq.mpr c36
           have c36b1:(a0_0 != 13)=false:=bne_eq_false_iff_eq.mpr c36
           clear c36
           obtain rfl:=Option.some.inj H
           have hcz37_0:wc.cell? ⟨gb202,0,none⟩=some (.int .i64 a0_0):=(zAE BK202.out 0).trans rfl
           have hcz37_1:wc.cell? ⟨gb202,1,none⟩=some (.int .i64 a0_1):=(zAE BK202.out 1).trans rfl
           have hcz37_2:wc.cell? ⟨gb202,2,none⟩=some (.int .i64 a0_2):=(zAE BK202.out 2).trans rfl
           have hcz37_3:wc.cell? ⟨gb202,3,none⟩=some (.int .i64 a0_3):=(zAE BK202.out 3).trans rfl
           have hcz37_4:wc.cell? ⟨gb202,4,none⟩=some (.slice A0_4 l0_4.length c0_4):=(zAE BK202.out 4).trans rfl
           have hcz37_5:wc.cell? ⟨gb202,5,none⟩=some (.int .i64 a0_5):=(zAE BK202.out 5).trans rfl
           have hfz37_0:=zAD BK202.out 0
           have hfz37_1:=zAD BK202.out 1
           have hfz37_2:=zAD BK202.out 2
           have hfz37_3:=zAD BK202.out 3
           have hfz37_4:=zAD BK202.out 4
           have hfz37_5:=zAD BK202.out 5
           go_wp2
           repeat (go_quiet (fail);try go_wp2)
           go_ret
           exact ⟨by first|rfl|(simp [zAQ,zAP] <;> rfl)|(simp [*,zAQ,zAP] <;> rfl),by repeat (first|(with_reducible first|exact HB.out|apply zAB|apply zAA|apply zAC|refine zAF ?_ GE202.out)|exact HB.out)⟩
          ·rw [if_neg c36] at H
           have c36b0:(a0_0 == 13)=false:=beq_eq_false_iff_ne.mpr c36
           have c36b1:(a0_0 != 13)=true:=bne_iff_ne.mpr c36
           by_cases c38:a0_0=14
           ·rw [if_pos c38] at H
            have c38b0:(a0_0 == 14)=true:=beq_iff_eq.mpr c38
            have c38b1:(a0_0 != 14)=false:=bne_eq_false_iff_eq.mpr c38
            clear c38
            obtain rfl:=Option.some.inj H
            have hcz39_0:wc.cell? ⟨gb202,0,none⟩=some (.int .i64 a0_0):=(zAE BK202.out 0).trans rfl
            have hcz39_1:wc.cell? ⟨gb202,1,none⟩=some (.int .i64 a0_1):=(zAE BK202.out 1).trans rfl
            have hcz39_2:wc.cell? ⟨gb202,2,none⟩=some (.int .i64 a0_2):=(zAE BK202.out 2).trans rfl
            have hcz39_3:wc.cell? ⟨gb202,3,none⟩=some (.int .i64 a0_3):=(zAE BK202.out 3).trans rfl
            have hcz39_4:wc.cell? ⟨gb202,4,none⟩=some (.slice A0_4 l0_4.length c0_4):=(zAE BK202.out 4).trans rfl
            have hcz39_5:wc.cell? ⟨gb202,5,none⟩=some (.int .i64 a0_5):=(zAE BK202.out 5).trans rfl
            have hfz39_0:=zAD BK202.out 0
            have hfz39_1:=zAD BK202.out 1
            have hfz39_2:=zAD BK202.out 2
            have hfz39_3:=zAD BK202.out 3
            have hfz39_4:=zAD BK202.out 4
            have hfz39_5:=zAD BK202.out 5
            go_wp2
            repeat (go_quiet (fail);try go_wp2)
            go_ret
            exact ⟨by first|rfl|(simp [zAQ,zAP] <;> rfl)|(simp [*,zAQ,zAP] <;> rfl),by repeat (first|(with_reducible first|exact HB.out|apply zAB|apply zAA|apply zAC|refine zAF ?_ GE202.out)|exact HB.out)⟩
           ·rw [if_neg c38] at H
            have c38b0:(a0_0 == 14)=false:=beq_eq_false_iff_ne.mpr c38
            have c38b1:(a0_0 != 14)=true:=bne_iff_ne.mpr c38
            obtain rfl:=Option.some.inj H
            have hcz40_0:wc.cell? ⟨gb202,0,none⟩=some (.int .i64 a0_0):=(zAE BK202.out 0).trans rfl
            have hcz40_1:wc.cell? ⟨gb202,1,none⟩=some (.int .i64 a0_1):=(zAE BK202.out 1).trans rfl
            have hcz40_2:wc.cell? ⟨gb202,2,none⟩=some (.int .i64 a0_2):=(zAE BK202.out 2).trans rfl
            have hcz40_3:wc.cell? ⟨gb202,3,none⟩=some (.int .i64 a0_3):=(zAE BK202.out 3).trans rfl
            have hcz40_4:wc.cell? ⟨gb202,4,none⟩=some (.slice A0_4 l0_4.length c0_4):=(zAE BK202.out 4).trans rfl
            have hcz40_5:wc.cell? ⟨gb202,5,none⟩=some (.int .i64 a0_5):=(zAE BK202.out 5).trans rfl
            have hfz40_0:=zAD BK202.out 0
            have hfz40_1:=zAD BK202.out 1
            have hfz40_2:=zAD BK202.out 2
            have hfz40_3:=zAD BK202.out 3
            have hfz40_4:=zAD BK202.out 4
            have hfz40_5:=zAD BK202.out 5
            go_wp2
            repeat (go_quiet (fail);try go_wp2)
            go_ret
            exact ⟨by first|rfl|(simp [zAQ,zAP] <;> rfl)|(simp [*,zAQ,zAP] <;> rfl),by repeat (first|(with_reducible first|exact HB.out|apply zAB|apply zAA|apply zAC|refine zAF ?_ GE202.out)|exact HB.out)⟩
         ·rw [if_neg c35] at H
          have c35b0:(a0_3 == 0)=false:=beq_eq_false_iff_ne.mpr c35
          have c35b1:(a0_3 != 0)=true:=bne_iff_ne.mpr c35
          obtain rfl:=Option.some.inj H
          have hcz41_0:wc.cell? ⟨gb202,0,none⟩=some (.int .i64 a0_0):=(zAE BK202.out 0).trans rfl
          have hcz41_1:wc.cell? ⟨gb202,1,none⟩=some (.int .i64 a0_1):=(zAE BK202.out 1).trans rfl
          have hcz41_2:wc.cell? ⟨gb202,2,none⟩=some (.int .i64 a0_2):=(zAE BK202.out 2).trans rfl
          have hcz41_3:wc.cell? ⟨gb202,3,none⟩=some (.int .i64 a0_3):=(zAE BK202.out 3).trans rfl
          have hcz41_4:wc.cell? ⟨gb202,4,none⟩=some (.slice A0_4 l0_4.length c0_4):=(zAE BK202.out 4).trans rfl
          have hcz41_5:wc.cell? ⟨gb202,5,none⟩=some (.int .i64 a0_5):=(zAE BK202.out 5).trans rfl
          have hfz41_0:=zAD BK202.out 0
          have hfz41_1:=zAD BK202.out 1
          have hfz41_2:=zAD BK202.out 2
          have hfz41_3:=zAD BK202.out 3
          have hfz41_4:=zAD BK202.out 4
          have hfz41_5:=zAD BK202.out 5
          go_wp2
          repeat (go_quiet (fail);try go_wp2)
          go_ret
          exact ⟨by first|rfl|(simp [zAQ,zAP] <;> rfl)|(simp [*,zAQ,zAP] <;> rfl),by repeat (first|(with_reducible first|exact HB.out|apply zAB|apply zAA|apply zAC|refine zAF ?_ GE202.out)|exact HB.out)⟩
end Go.Proofs.YthbnigjckjkmnaaDoor.S

namespace Go.Proofs.YthbnigjckjkmnaaDoor.S
open Go.RowKit Go.Proofs.YthbnigjckjkmnaaDoorW.PrintWords Go.Proofs.YthbnigjckjkmnaaDoorW.PrintLast Go.Proofs.YthbnigjckjkmnaaDoorW.PrintMore
attribute [local go_sem] max2_int min2_int max_two min_two max_three min_three max_four min_four
mutual
def zAR.j0:Nat→List (S45)→Bool→Option (Bool)
 |0,_,_=>none
 |k+1,x0,x18=>if x18=true then (some false) else (zAR.l0 k x0 0)
def zAR.l0:Nat→List (S45)→Int→Option (Bool)
 |0,_,_=>none
 |k+1,x0,x3=>if x3<(x0.length:Int) then (if x3 > 0 then (if 0≤(wrap64 (x3 - 1)) then (if (wrap64 (x3 - 1))<(x0.length:Int) then (if 0≤x3 then (zAR.j2 k x0 x3 (decide (((zAZ x0 (wrap64 (x3 - 1))).f0)≥((zAZ x0 x3).f0)))) else (none)) else (none)) else (none)) else (zAR.j2 k x0 x3 false)) else (some true)
def zAR.j2:Nat→List (S45)→Int→Bool→Option (Bool)
 |0,_,_,_=>none
 |k+1,x0,x3,x40=>if x40=true then (some false) else (if 0≤x3 then (if x3<(x0.length:Int) then (if ((zAZ x0 x3).f0) > 1000000000000 then (some false) else (if ((zAZ x0 x3).f1) > 1000000000000 then (some false) else (if ((zAZ x0 x3).f1)<(-1000000000000) then (some false) else (zAR.l0 k x0 (wrap64 (x3+1)))))) else (none)) else (none))
end
def zAR.f (k:Nat) (l0:List (S45)):Option (Bool):=if (l0.length:Int)=0 then (zAR.j0 k l0 true) else (if (l0.length:Int) > 16 then (zAR.j0 k l0 true) else (if 0<(l0.length:Int) then (zAR.j0 k l0 (((zAZ l0 0).f0) != 0)) else (none)))
theorem zAR.mono_l:∀ k,(∀ y0 y1,LeO (zAR.j0 k y0 y1) (zAR.j0 (k+1) y0 y1))∧(∀ y0 y1,LeO (zAR.l0 k y0 y1) (zAR.l0 (k+1) y0 y1))∧(∀ y0 y1 y2,LeO (zAR.j2 k y0 y1 y2) (zAR.j2 (k+1) y0 y1 y2))
 |0=>⟨fun _ _ r h=>by simp [zAR.j0] at h,fun _ _ r h=>by simp [zAR.l0] at h,fun _ _ _ r h=>by simp [zAR.j2] at h⟩
 |k+1=>by
  obtain ⟨ih0,ih1,ih2⟩:=zAR.mono_l k
  refine ⟨?_,?_,?_⟩
  ·intro y0 y1
   unfold zAR.j0
   repeat' first
   |(with_reducible exact ih0 _ _)
   |(with_reducible exact ih1 _ _)
   |(with_reducible exact ih2 _ _ _)
   |(with_reducible exact LeO.refl _)
   |(with_reducible exact LeO.none _)
   |(with_reducible refine LeO.ite ?_ ?_)
   |(with_reducible refine LeO.bind ?_ (fun _=>?_))
   |exact ih0 _ _
   |exact ih1 _ _
   |exact ih2 _ _ _
   |exact LeO.none _
   |refine LeO.ite ?_ ?_
   |refine LeO.bind ?_ (fun _=>?_)
  ·intro y0 y1
   unfold zAR.l0
   repeat' first
   |(with_reducible exact ih0 _ _)
   |(with_reducible exact ih1 _ _)
   |(with_reducible exact ih2 _ _ _)
   |(with_reducible exact LeO.refl _)
   |(with_reducible exact LeO.none _)
   |(with_reducible refine LeO.ite ?_ ?_)
   |(with_reducible refine LeO.bind ?_ (fun _=>?_))
   |exact ih0 _ _
   |exact ih1 _ _
   |exact ih2 _ _ _
   |exact LeO.none _
   |refine LeO.ite ?_ ?_
   |refine LeO.bind ?_ (fun _=>?_)
  ·intro y0 y1 y2
   unfold zAR.j2
   repeat' first
   |(with_reducible exact ih0 _ _)
   |(with_reducible exact ih1 _ _)
   |(with_reducible exact ih2 _ _ _)
   |(with_reducible exact LeO.refl _)
   |(with_reducible exact LeO.none _)
   |(with_reducible refine LeO.ite ?_ ?_)
   |(with_reducible refine LeO.bind ?_ (fun _=>?_))
   |exact ih0 _ _
   |exact ih1 _ _
   |exact ih2 _ _ _
   |exact LeO.none _
   |refine LeO.ite ?_ ?_
   |refine LeO.bind ?_ (fun _=>?_)
theorem zAR.mono:∀ a0 k,LeO (zAR.f k a0) (zAR.f (k+1) a0):=by
 intro a0 k
 obtain ⟨ih0,ih1,ih2⟩:=zAR.mono_l k
 unfold zAR.f
 repeat' first
   |(with_reducible exact ih0 _ _)
   |(with_reducible exact ih1 _ _)
   |(with_reducible exact ih2 _ _ _)
   |(with_reducible exact LeO.refl _)
   |(with_reducible exact LeO.none _)
   |(with_reducible refine LeO.ite ?_ ?_)
   |(with_reducible refine LeO.bind ?_ (fun _=>?_))
   |exact ih0 _ _
   |exact ih1 _ _
   |exact ih2 _ _ _
   |exact LeO.none _
   |refine LeO.ite ?_ ?_
   |refine LeO.bind ?_ (fun _=>?_)
set_option maxHeartbeats 8000000 in
set_option maxRecDepth 100000 in
theorem zAR.calls (k:Nat) (A0:Option Addr) (c0:Nat) (l0:List (S45)) (r:Bool) (w:World) (hr0:Kd.C k45 w A0 l0.length l0) (hc0:l0.length≤c0) (h:zAR.f k l0=some r) :
  Calls Tryd.prog 42 #[.slice A0 l0.length c0] w fun e w'=>e = .returned (.bool r)∧zAk w w':=by
 have HR0:=aK_ hr0
 have HC0:=aK_ hc0
 clear hr0 hc0
 have H:(if (l0.length:Int)=0 then (zAR.j0 k l0 true) else (if (l0.length:Int) > 16 then (zAR.j0 k l0 true) else (if 0<(l0.length:Int) then (zAR.j0 k l0 (((zAZ l0 0).f0) != 0)) else (none))))=some r:=h
 clear h
 have HC2:=aK_ H
 clear H
 go_enter Tryd.func42,Tryd.ntmps42
 go_upto_region 1 with (fail)
 repeat (go_quiet (fail);go_upto_region 1 with (fail))
 go_cut [18] (fun v18 wc=>∃ (kq:Nat) (x18_1:Bool),v18 = .bool x18_1∧zAa (zAR.j0 kq l0 x18_1=some r)∧zAa (kq≤k)∧zAk w wc)
 case first =>
  have H:=HC2.out
  clear HC2
  by_cases c3:(l0.length:Int)=0
  ·rw [if_pos c3] at H
   have c3b0:((l0.length:Int) == 0)=true:=beq_iff_eq.mpr c3
   have c3b1:((l0.length:Int) != 0)=false:=bne_eq_false_iff_eq.mpr c3
   clear c3
   (first|rw [c3b0]|(simp only [i64_w,i32_w];rw [c3b0])|skip)
   have H':=aK_ H
   clear H
   go_wp2
   repeat (go_quiet (fail);try go_wp2)
   go_meet
   case rel=>exact ⟨_,(true),(by first|rfl|(simp;done)|(simp [*];done)),H',⟨by first|omega|exact Nat.le_refl _⟩,by repeat (first|exact zAk.refl _|apply zAk.step)⟩
  ·rw [if_neg c3] at H
   have c3b0:((l0.length:Int) == 0)=false:=beq_eq_false_iff_ne.mpr c3
   have c3b1:((l0.length:Int) != 0)=true:=bne_iff_ne.mpr c3
   have c3b2 : ¬ (l0=[]):=fun h_=>c3 (by rw [h_];rfl)
   (first|rw [c3b0]|(simp only [i64_w,i32_w];rw [c3b0])|skip)
   by_cases c4:(l0.length:Int) > 16
   ·rw [if_pos c4] at H
    have c4b0:decide (16<(l0.length:Int))=true:=decide_eq_true c4
    have c4b1:decide (16<l0.length)=true:=decide_eq_true (by omega)
    clear c4
    have H':=aK_ H
    clear H
    go_wp2
    repeat (go_quiet (fail);try go_wp2)
    go_meet
    case rel=>exact ⟨_,(true),(by first|rfl|(simp;done)|(simp [*];done)),H',⟨by first|omega|exact Nat.le_refl _⟩,by repeat (first|exact zAk.refl _|apply zAk.step)⟩
   ·rw [if_neg c4] at H
    have c4b0:decide (16<(l0.length:Int))=false:=decide_eq_false c4
    have c4b1:decide (16<l0.length)=false:=decide_eq_false (by omega)
    clear c4
    by_cases c5:0<(l0.length:Int)
    ·rw [if_pos c5] at H
     have c5b0:decide (0<(l0.length:Int))=true:=decide_eq_true c5
     have c5b1:decide (0<l0.length)=true:=decide_eq_true (by omega)
     clear c5
     have H':=aK_ H
     clear H
     have p204:0≤(0:Int):=(by omega)
     have q204:0<(l0.length:Int):=of_decide_eq_true (by first|(with_reducible assumption)|assumption)
     obtain ⟨ad204,e204,hx204_0,hx204_1⟩:=at_T45 HR0.out 0 p204 q204
     cases e204
     have qi204:(0<l0.length)=True:=eq_true (by omega)
     (try rw [show ((0:Int)).toNat=0 from rfl] at hx204_0)
     (try rw [show 0 * 2=0 from rfl] at hx204_0)
     (try rw [Addr.add_zero'] at hx204_0)
     (try rw [show ((0:Int)).toNat=0 from rfl] at hx204_1)
     (try rw [show 0 * 2=0 from rfl] at hx204_1)
     (try rw [Addr.add_zero'] at hx204_1)
     replace p204:=eq_true p204
     replace q204:=eq_true q204
     go_wp2
     repeat (go_quiet (fail);try go_wp2)
     go_meet
     case rel=>exact ⟨_,((((zAZ l0 0).f0) != 0)),(by first|rfl|(simp;done)|(simp [*];done)),H',⟨by first|omega|exact Nat.le_refl _⟩,by repeat (first|exact zAk.refl _|apply zAk.step)⟩
    ·rw [if_neg c5] at H
     exact absurd H (by simp)
 case rest =>
  clear HC2
  try clear p2
  try clear q2
  try clear hx2
  try clear qi2
  try clear c3
  try clear c3b0
  try clear c3b1
  try clear c3b2
  try clear c4
  try clear c4b0
  try clear c4b1
  try clear c5
  try clear c5b0
  try clear c5b1
  try clear hx204_0
  try clear hx204_1
  try clear p204
  try clear q204
  obtain ⟨kq,x18_1,rfl,HA,HJ1,⟨mc1,rfl⟩⟩:=hcut
  cases kq with
  |zero=>exact absurd HA.out (by simp [zAR.j0])
  |succ kj1 =>
   have H:=HA.out
   clear HA
   simp only [zAR.j0] at H
   by_cases c6:x18_1=true
   ·subst c6
    have H1:(some false)=some r:=by rw [if_pos rfl] at H;exact H
    clear H
    have H:=H1
    clear H1
    obtain rfl:=Option.some.inj H
    go_wp2
    repeat (go_quiet (fail);try go_wp2)
    go_ret
    exact ⟨by first|rfl|(simp;done)|(simp [*];done),by repeat (first|exact zAk.refl _|apply zAk.step)⟩
   ·replace c6:=Bool.eq_false_iff.mpr c6
    subst c6
    have H1:(zAR.l0 kj1 l0 0)=some r:=by rw [if_neg (show ¬ (false=true) by decide)] at H;exact H
    clear H
    have H:=H1
    clear H1
    have H':=aK_ H
    clear H
    go_wp2
    repeat (go_quiet (fail);try go_wp2)
    (try simp only [Act.put,List.setIfInBounds_toArray,List.set_cons_zero,List.set_cons_succ])
    go_loopg [3] kj1 (fun kq v3 w'=>∃ (x3_2:Int),v3 = .int .i64 x3_2∧zAa (zAR.l0 kq l0 x3_2=some r)∧zAa (kq≤kj1)∧zAk w w')
    case atStart=>exact ⟨(0),(by first|rfl|(simp;done)|(simp [*];done)),H',⟨Nat.le_refl _⟩,by repeat (first|exact zAk.refl _|apply zAk.step)⟩
    case round =>
     clear H'
     try clear c1
     try clear p2
     try clear q2
     try clear hx2
     try clear qi2
     try clear c3
     try clear c3b0
     try clear c3b1
     try clear c3b2
     try clear c4
     try clear c4b0
     try clear c4b1
     try clear c5
     try clear c5b0
     try clear c5b1
     try clear c6
     try clear hx204_0
     try clear hx204_1
     try clear p2
     try clear p204
     try clear q2
     try clear q204
     obtain ⟨x3_2,rfl,HA,HK2,⟨m2,rfl⟩⟩:=hrel
     cases gk with
     |zero=>exact absurd HA.out (by simp [zAR.l0])
     |succ k2 =>
      have H:=HA.out
      clear HA
      simp only [zAR.l0] at H
      by_cases c7:x3_2<(l0.length:Int)
      ·rw [if_pos c7] at H
       have c7b0:decide (x3_2<(l0.length:Int))=true:=decide_eq_true c7
       clear c7
       have HC8:=aK_ H
       clear H
       go_upto_region 6 with (fail)
       repeat (go_quiet (fail);go_upto_region 6 with (fail))
       go_cut [40] (fun v40 wc=>∃ (kq:Nat) (x40_7:Bool),v40 = .bool x40_7∧zAa (zAR.j2 kq l0 x3_2 x40_7=some r)∧zAa (kq≤k2)∧zAk w wc)
       case first =>
        have H:=HC8.out
        clear HC8
        by_cases c9:x3_2 > 0
        ·rw [if_pos c9] at H
         have c9b0:decide (0<x3_2)=true:=decide_eq_true c9
         clear c9
         (first|rw [c9b0]|(simp only [i64_w,i32_w];rw [c9b0])|skip)
         obtain ⟨ji10,hji10⟩:∃ j_:Int,(wrap64 (x3_2 - 1))=j_:=⟨_,rfl⟩
         replace H:(if 0≤(ji10) then (if (ji10)<(l0.length:Int) then (if 0≤x3_2 then (zAR.j2 k2 l0 x3_2 (decide (((zAZ l0 (ji10)).f0)≥((zAZ l0 x3_2).f0)))) else (none)) else (none)) else (none))=some r:=by first|(rw [hji10] at H;exact H)|(simp only [hji10] at H ⊢;exact H)
         have hji10w:(IntKind.i64.wrap (x3_2 - 1))=ji10:=(i64_w _).trans hji10
         by_cases c11:0≤(ji10)
         ·rw [if_pos c11] at H
          have c11b0:decide (0≤(ji10))=true:=decide_eq_true c11
          clear c11
          by_cases c12:(ji10)<(l0.length:Int)
          ·rw [if_pos c12] at H
           have c12b0:decide ((ji10)<(l0.length:Int))=true:=decide_eq_true c12
           clear c12
           by_cases c13:0≤x3_2
           ·rw [if_pos c13] at H
            have c13b0:decide (0≤x3_2)=true:=decide_eq_true c13
            clear c13
            have H':=aK_ H
            clear H
            have p205:0≤((ji10):Int):=of_decide_eq_true (by first|(with_reducible assumption)|assumption)
            have q205:(ji10)<(l0.length:Int):=of_decide_eq_true (by first|(with_reducible assumption)|assumption)
            obtain ⟨ad205,e205,hx205_0,hx205_1⟩:=at_T45 HR0.out (ji10) p205 q205
            cases e205
            replace p205:=eq_true p205
            replace q205:=eq_true q205
            have p206:0≤(x3_2:Int):=of_decide_eq_true (by first|(with_reducible assumption)|assumption)
            have q206:x3_2<(l0.length:Int):=of_decide_eq_true (by first|(with_reducible assumption)|assumption)
            obtain ⟨ad206,e206,hx206_0,hx206_1⟩:=at_T45 HR0.out x3_2 p206 q206
            obtain rfl:ad205=ad206:=(by injection e206)
            replace p206:=eq_true p206
            replace q206:=eq_true q206
            go_wp2
            repeat (go_quiet (fail);try go_wp2)
            go_meet
            case rel=>exact ⟨_,(decide (((zAZ l0 (ji10)).f0)≥((zAZ l0 x3_2).f0))),(by first|rfl|(simp;done)|(simp only [← hji10] <;> (first|rfl|simp))|(simp [*];done)),H',⟨by have:=HJ1.out;have:=HK2.out;first|omega|exact Nat.le_refl _⟩,by repeat (first|exact zAk.refl _|apply zAk.step)⟩
           ·rw [if_neg c13] at H
            exact absurd H (by simp)
          ·rw [if_neg c12] at H
           exact absurd H (by simp)
         ·rw [if_neg c11] at H
          exact absurd H (by simp)
        ·rw [if_neg c9] at H
         have c9b0:decide (0<x3_2)=false:=decide_eq_false c9
         clear c9
         (first|rw [c9b0]|(simp only [i64_w,i32_w];rw [c9b0])|skip)
         have H':=aK_ H
         clear H
         go_wp2
         repeat (go_quiet (fail);try go_wp2)
         go_meet
         case rel=>exact ⟨_,(false),(by first|rfl|(simp;done)|(simp [*];done)),H',⟨by have:=HJ1.out;have:=HK2.out;first|omega|exact Nat.le_refl _⟩,by repeat (first|exact zAk.refl _|apply zAk.step)⟩
       case rest =>
        clear HC8
        try clear c1
        try clear p2
        try clear q2
        try clear hx2
        try clear qi2
        try clear c3
        try clear c3b0
        try clear c3b1
        try clear c3b2
        try clear c4
        try clear c4b0
        try clear c4b1
        try clear c5
        try clear c5b0
        try clear c5b1
        try clear c6
        try clear p6
        try clear c7
        try clear c7b0
        try clear c9
        try clear c9b0
        try clear c11
        try clear c11b0
        try clear c12
        try clear c12b0
        try clear c13
        try clear c13b0
        try clear hx204_0
        try clear hx204_1
        try clear hx205_0
        try clear hx205_1
        try clear hx206_0
        try clear hx206_1
        try clear p2
        try clear p204
        try clear p205
        try clear p206
        try clear q2
        try clear q204
        try clear q205
        try clear q206
        obtain ⟨kq,x40_7,rfl,HA,HJ7,⟨mc7,rfl⟩⟩:=hcut
        cases kq with
        |zero=>exact absurd HA.out (by simp [zAR.j2])
        |succ kj7 =>
         have H:=HA.out
         clear HA
         simp only [zAR.j2] at H
         by_cases c14:x40_7=true
         ·subst c14
          have H1:(some false)=some r:=by rw [if_pos rfl] at H;exact H
          clear H
          have H:=H1
          clear H1
          obtain rfl:=Option.some.inj H
          go_wp2
          repeat (go_quiet (fail);try go_wp2)
          go_ret
          exact ⟨by first|rfl|(simp;done)|(simp [*];done),by repeat (first|exact zAk.refl _|apply zAk.step)⟩
         ·replace c14:=Bool.eq_false_iff.mpr c14
          subst c14
          have H1:(if 0≤x3_2 then (if x3_2<(l0.length:Int) then (if ((zAZ l0 x3_2).f0) > 1000000000000 then (some false) else (if ((zAZ l0 x3_2).f1) > 1000000000000 then (some false) else (if ((zAZ l0 x3_2).f1)<(-1000000000000) then (some false) else (zAR.l0 kj7 l0 (wrap64 (x3_2+1)))))) else (none)) else (none))=some r:=by rw [if_neg (show ¬ (false=true) by decide)] at H;exact H
          clear H
          have H:=H1
          clear H1
          by_cases c15:0≤x3_2
          ·rw [if_pos c15] at H
           have c15b0:decide (0≤x3_2)=true:=decide_eq_true c15
           clear c15
           by_cases c16:x3_2<(l0.length:Int)
           ·rw [if_pos c16] at H
            have c16b0:decide (x3_2<(l0.length:Int))=true:=decide_eq_true c16
            clear c16
            by_cases c17:((zAZ l0 x3_2).f0) > 1000000000000
            ·rw [if_pos c17] at H
             have c17b0:decide (1000000000000<((zAZ l0 x3_2).f0))=true:=decide_eq_true c17
             clear c17
             obtain rfl:=Option.some.inj H
             have p207:0≤(x3_2:Int):=of_decide_eq_true (by first|(with_reducible assumption)|assumption)
             have q207:x3_2<(l0.length:Int):=of_decide_eq_true (by first|(with_reducible assumption)|assumption)
             obtain ⟨ad207,e207,hx207_0,hx207_1⟩:=at_T45 HR0.out x3_2 p207 q207
             cases e207
             replace p207:=eq_true p207
             replace q207:=eq_true q207
             go_wp2
             repeat (go_quiet (fail);try go_wp2)
             go_ret
             exact ⟨by first|rfl|(simp;done)|(simp [*];done),by repeat (first|exact zAk.refl _|apply zAk.step)⟩
            ·rw [if_neg c17] at H
             have c17b0:decide (1000000000000<((zAZ l0 x3_2).f0))=false:=decide_eq_false c17
             clear c17
             by_cases c18:((zAZ l0 x3_2).f1) > 1000000000000
             ·rw [if_pos c18] at H
              have c18b0:decide (1000000000000<((zAZ l0 x3_2).f1))=true:=decide_eq_true c18
              clear c18
              obtain rfl:=Option.some.inj H
              have p207:0≤(x3_2:Int):=of_decide_eq_true (by first|(with_reducible assumption)|assumption)
              have q207:x3_2<(l0.length:Int):=of_decide_eq_true (by first|(with_reducible assumption)|assumption)
              obtain ⟨ad207,e207,hx207_0,hx207_1⟩:=at_T45 HR0.out x3_2 p207 q207
              cases e207
              replace p207:=eq_true p207
              replace q207:=eq_true q207
              have p208:0≤(x3_2:Int):=of_decide_eq_true (by first|(with_reducible assumption)|assumption)
              have q208:x3_2<(l0.length:Int):=of_decide_eq_true (by first|(with_reducible assumption)|assumption)
              obtain ⟨ad208,e208,hx208_0,hx208_1⟩:=at_T45 HR0.out x3_2 p208 q208
              obtain rfl:ad207=ad208:=(by injection e208)
              replace p208:=eq_true p208
              replace q208:=eq_true q208
              go_wp2
              repeat (go_quiet (fail);try go_wp2)
              go_ret
              exact ⟨by first|rfl|(simp;done)|(simp [*];done),by repeat (first|exact zAk.refl _|apply zAk.step)⟩
             ·rw [if_neg c18] at H
              have c18b0:decide (1000000000000<((zAZ l0 x3_2).f1))=false:=decide_eq_false c18
              clear c18
              by_cases c19:((zAZ l0 x3_2).f1)<(-1000000000000)
              ·rw [if_pos c19] at H
               have c19b0:decide (((zAZ l0 x3_2).f1)<(-1000000000000))=true:=decide_eq_true c19
               clear c19
               obtain rfl:=Option.some.inj H
               have p207:0≤(x3_2:Int):=of_decide_eq_true (by first|(with_reducible assumption)|assumption)
               have q207:x3_2<(l0.length:Int):=of_decide_eq_true (by first|(with_reducible assumption)|assumption)
               obtain ⟨ad207,e207,hx207_0,hx207_1⟩:=at_T45 HR0.out x3_2 p207 q207
               cases e207
               replace p207:=eq_true p207
               replace q207:=eq_true q207
               have p208:0≤(x3_2:Int):=of_decide_eq_true (by first|(with_reducible assumption)|assumption)
               have q208:x3_2<(l0.length:Int):=of_decide_eq_true (by first|(with_reducible assumption)|assumption)
               obtain ⟨ad208,e208,hx208_0,hx208_1⟩:=at_T45 HR0.out x3_2 p208 q208
               obtain rfl:ad207=ad208:=(by injection e208)
               replace p208:=eq_true p208
               replace q208:=eq_true q208
               have p209:0≤(x3_2:Int):=of_decide_eq_true (by first|(with_reducible assumption)|assumption)
               have q209:x3_2<(l0.length:Int):=of_decide_eq_true (by first|(with_reducible assumption)|assumption)
               obtain ⟨ad209,e209,hx209_0,hx209_1⟩:=at_T45 HR0.out x3_2 p209 q209
               obtain rfl:ad207=ad209:=(by injection e209)
               replace p209:=eq_true p209
               replace q209:=eq_true q209
               go_wp2
               repeat (go_quiet (fail);try go_wp2)
               go_ret
               exact ⟨by first|rfl|(simp;done)|(simp [*];done),by repeat (first|exact zAk.refl _|apply zAk.step)⟩
              ·rw [if_neg c19] at H
               have c19b0:decide (((zAZ l0 x3_2).f1)<(-1000000000000))=false:=decide_eq_false c19
               clear c19
               have H':=aK_ H
               clear H
               have p207:0≤(x3_2:Int):=of_decide_eq_true (by first|(with_reducible assumption)|assumption)
               have q207:x3_2<(l0.length:Int):=of_decide_eq_true (by first|(with_reducible assumption)|assumption)
               obtain ⟨ad207,e207,hx207_0,hx207_1⟩:=at_T45 HR0.out x3_2 p207 q207
               cases e207
               replace p207:=eq_true p207
               replace q207:=eq_true q207
               have p208:0≤(x3_2:Int):=of_decide_eq_true (by first|(with_reducible assumption)|assumption)
               have q208:x3_2<(l0.length:Int):=of_decide_eq_true (by first|(with_reducible assumption)|assumption)
               obtain ⟨ad208,e208,hx208_0,hx208_1⟩:=at_T45 HR0.out x3_2 p208 q208
               obtain rfl:ad207=ad208:=(by injection e208)
               replace p208:=eq_true p208
               replace q208:=eq_true q208
               have p209:0≤(x3_2:Int):=of_decide_eq_true (by first|(with_reducible assumption)|assumption)
               have q209:x3_2<(l0.length:Int):=of_decide_eq_true (by first|(with_reducible assumption)|assumption)
               obtain ⟨ad209,e209,hx209_0,hx209_1⟩:=at_T45 HR0.out x3_2 p209 q209
               obtain rfl:ad207=ad209:=(by injection e209)
               replace p209:=eq_true p209
               replace q209:=eq_true q209
               go_wp2
               repeat (go_quiet (fail);try go_wp2)
               go_roundg kj7
               case measure=>have:=HJ1.out;have:=HK2.out;have:=HJ7.out;omega
               case rel=>exact ⟨(wrap64 (x3_2+1)),(by first|rfl|(simp;done)|(simp [*];done)),H',⟨by have:=HJ1.out;have:=HK2.out;have:=HJ7.out;omega⟩,by repeat (first|exact zAk.refl _|apply zAk.step)⟩
           ·rw [if_neg c16] at H
            exact absurd H (by simp)
          ·rw [if_neg c15] at H
           exact absurd H (by simp)
      ·rw [if_neg c7] at H
       have c7b0:decide (x3_2<(l0.length:Int))=false:=decide_eq_false c7
       clear c7
       obtain rfl:=Option.some.inj H
       go_wp2
       repeat (go_quiet (fail);try go_wp2)
       go_ret
       exact ⟨by first|rfl|(simp;done)|(simp [*];done),by repeat (first|exact zAk.refl _|apply zAk.step)⟩
end Go.Proofs.YthbnigjckjkmnaaDoor.S

namespace Go.Proofs.YthbnigjckjkmnaaDoor.S
open Go.RowKit Go.Proofs.YthbnigjckjkmnaaDoorW.PrintWords Go.Proofs.YthbnigjckjkmnaaDoorW.PrintLast Go.Proofs.YthbnigjckjkmnaaDoorW.PrintMore
attribute [local go_sem] max2_int min2_int max_two min_two max_three min_three max_four min_four
mutual
def zAW.l0:Nat→Int→Int→ByteArray→List (S47)→Int→List (S33)→Option (Int × Int)
 |0,_,_,_,_,_,_=>none
 |k+1,x5,x6,x211000,x211001,x211002,x211003=>if x6<(x211003.length:Int) then (if 0≤x6 then ((zAM.f k ((zAJ x211003 x6).f0) ((zAJ x211003 x6).f1) ((zAJ x211003 x6).f2) ((zAJ x211003 x6).f3) ((zAJ x211003 x6).f4) ((zAJ x211003 x6).f5)).bind fun t214=>(if t214<0 then (zAW.j1 k x5 x6 t214 true x211000 x211001 x211002 x211003 ((zAJ x211003 x6).f0) ((zAJ x211003 x6).f1) ((zAJ x211003 x6).f2) ((zAJ x211003 x6).f3) ((zAJ x211003 x6).f4) ((zAJ x211003 x6).f5)) else ((zAU.f k ((zAJ x211003 x6).f0) ((zAJ x211003 x6).f1) ((zAJ x211003 x6).f2) ((zAJ x211003 x6).f3) ((zAJ x211003 x6).f4) ((zAJ x211003 x6).f5) (x211001.length:Int)).bind fun t215=>(if t215=true then (zAW.j1 k x5 x6 t214 (decide (x5<t214)) x211000 x211001 x211002 x211003 ((zAJ x211003 x6).f0) ((zAJ x211003 x6).f1) ((zAJ x211003 x6).f2) ((zAJ x211003 x6).f3) ((zAJ x211003 x6).f4) ((zAJ x211003 x6).f5)) else (zAW.j1 k x5 x6 t214 true x211000 x211001 x211002 x211003 ((zAJ x211003 x6).f0) ((zAJ x211003 x6).f1) ((zAJ x211003 x6).f2) ((zAJ x211003 x6).f3) ((zAJ x211003 x6).f4) ((zAJ x211003 x6).f5)))))) else (none)) else (if x5=1 then (some (0,0)) else (some ((x211003.length:Int),50)))
def zAW.j1:Nat→Int→Int→Int→Bool→ByteArray→List (S47)→Int→List (S33)→Int→Int→Int→Int→List (S45)→Int→Option (Int × Int)
 |0,_,_,_,_,_,_,_,_,_,_,_,_,_,_=>none
 |k+1,x5,x6,x8,x46,x211000,x211001,x211002,x211003,x214000,x214001,x214002,x214003,x214004,x214005=>if x46=true then (some (x6,50)) else (if x214000=13 then ((zAR.f k x214004).bind fun t216=>(if t216=true then (zAW.l0 k (wrap64 ((wrap64 (x5 - x8))+1)) (wrap64 (x6+1)) x211000 x211001 x211002 x211003) else (some (x6,51)))) else (if x214000=14 then ((zAR.f k x214004).bind fun t217=>(if t217=true then (zAW.l0 k (wrap64 ((wrap64 (x5 - x8))+1)) (wrap64 (x6+1)) x211000 x211001 x211002 x211003) else (some (x6,51)))) else (zAW.l0 k (wrap64 ((wrap64 (x5 - x8))+1)) (wrap64 (x6+1)) x211000 x211001 x211002 x211003)))
end
def zAW.f (k:Nat) (a0_0:ByteArray) (l0_1:List (S47)) (a0_2:Int) (l0_3:List (S33)):Option (Int × Int):=(zAT.f k a0_0 l0_1 a0_2 l0_3).bind fun t211=>(if t211=0 then (if (l0_3.length:Int) > 1024 then (some (1024,2)) else (zAW.l0 k 0 0 a0_0 l0_1 a0_2 l0_3)) else (some ((-1),t211)))
theorem zAW.mono_l:∀ k,(∀ y0 y1 y2 y3 y4 y5,LeO (zAW.l0 k y0 y1 y2 y3 y4 y5) (zAW.l0 (k+1) y0 y1 y2 y3 y4 y5))∧(∀ y0 y1 y2 y3 y4 y5 y6 y7 y8 y9 y10 y11 y12 y13,LeO (zAW.j1 k y0 y1 y2 y3 y4 y5 y6 y7 y8 y9 y10 y11 y12 y13) (zAW.j1 (k+1) y0 y1 y2 y3 y4 y5 y6 y7 y8 y9 y10 y11 y12 y13))
 |0=>⟨fun _ _ _ _ _ _ r h=>by simp [zAW.l0] at h,fun _ _ _ _ _ _ _ _ _ _ _ _ _ _ r h=>by simp [zAW.j1] at h⟩
 |k+1=>by
  obtain ⟨ih0,ih1⟩:=zAW.mono_l k
  refine ⟨?_,?_⟩
  ·intro y0 y1 y2 y3 y4 y5
   unfold zAW.l0
   repeat' first
   |(with_reducible exact ih0 _ _ _ _ _ _)
   |(with_reducible exact ih1 _ _ _ _ _ _ _ _ _ _ _ _ _ _)
   |(with_reducible exact zAM.mono _ _ _ _ _ _ _)
   |(with_reducible exact zAU.mono _ _ _ _ _ _ _ _)
   |(with_reducible exact zAT.mono _ _ _ _ _)
   |(with_reducible exact zAR.mono _ _)
   |(with_reducible exact LeO.refl _)
   |(with_reducible exact LeO.none _)
   |(with_reducible refine LeO.ite ?_ ?_)
   |(with_reducible refine LeO.bind ?_ (fun _=>?_))
   |exact ih0 _ _ _ _ _ _
   |exact ih1 _ _ _ _ _ _ _ _ _ _ _ _ _ _
   |exact zAM.mono _ _ _ _ _ _ _
   |exact zAU.mono _ _ _ _ _ _ _ _
   |exact zAT.mono _ _ _ _ _
   |exact zAR.mono _ _
   |exact LeO.none _
   |refine LeO.ite ?_ ?_
   |refine LeO.bind ?_ (fun _=>?_)
  ·intro y0 y1 y2 y3 y4 y5 y6 y7 y8 y9 y10 y11 y12 y13
   unfold zAW.j1
   repeat' first
   |(with_reducible exact ih0 _ _ _ _ _ _)
   |(with_reducible exact ih1 _ _ _ _ _ _ _ _ _ _ _ _ _ _)
   |(with_reducible exact zAM.mono _ _ _ _ _ _ _)
   |(with_reducible exact zAU.mono _ _ _ _ _ _ _ _)
   |(with_reducible exact zAT.mono _ _ _ _ _)
   |(with_reducible exact zAR.mono _ _)
   |(with_reducible exact LeO.refl _)
   |(with_reducible exact LeO.none _)
   |(with_reducible refine LeO.ite ?_ ?_)
   |(with_reducible refine LeO.bind ?_ (fun _=>?_))
   |exact ih0 _ _ _ _ _ _
   |exact ih1 _ _ _ _ _ _ _ _ _ _ _ _ _ _
   |exact zAM.mono _ _ _ _ _ _ _
   |exact zAU.mono _ _ _ _ _ _ _ _
   |exact zAT.mono _ _ _ _ _
   |exact zAR.mono _ _
   |exact LeO.none _
   |refine LeO.ite ?_ ?_
   |refine LeO.bind ?_ (fun _=>?_)
theorem zAW.mono:∀ a0 a1 a2 a3 k,LeO (zAW.f k a0 a1 a2 a3) (zAW.f (k+1) a0 a1 a2 a3):=by
 intro a0 a1 a2 a3 k
 obtain ⟨ih0,ih1⟩:=zAW.mono_l k
 unfold zAW.f
 repeat' first
   |(with_reducible exact ih0 _ _ _ _ _ _)
   |(with_reducible exact ih1 _ _ _ _ _ _ _ _ _ _ _ _ _ _)
   |(with_reducible exact zAM.mono _ _ _ _ _ _ _)
   |(with_reducible exact zAU.mono _ _ _ _ _ _ _ _)
   |(with_reducible exact zAT.mono _ _ _ _ _)
   |(with_reducible exact zAR.mono _ _)
   |(with_reducible exact LeO.refl _)
   |(with_reducible exact LeO.none _)
   |(with_reducible refine LeO.ite ?_ ?_)
   |(with_reducible refine LeO.bind ?_ (fun _=>?_))
   |exact ih0 _ _ _ _ _ _
   |exact ih1 _ _ _ _ _ _ _ _ _ _ _ _ _ _
   |exact zAM.mono _ _ _ _ _ _ _
   |exact zAU.mono _ _ _ _ _ _ _ _
   |exact zAT.mono _ _ _ _ _
   |exact zAR.mono _ _
   |exact LeO.none _
   |refine LeO.ite ?_ ?_
   |refine LeO.bind ?_ (fun _=>?_)
set_option maxHeartbeats 8000000 in
set_option maxRecDepth 100000 in
theorem zAW.calls (k:Nat) (a0_0:ByteArray) (A0_1:Option Addr) (c0_1:Nat) (l0_1:List (S47)) (a0_2:Int) (A0_3:Option Addr) (c0_3:Nat) (l0_3:List (S33)) (r1:Int) (r2:Int) (w:World) (hr0_1:Kd.C k47 w A0_1 l0_1.length l0_1) (hc0_1:l0_1.length≤c0_1) (hr0_3:Kd.C k33 w A0_3 l0_3.length l0_3) (hc0_3:l0_3.length≤c0_3) (h:zAW.f k a0_0 l0_1 a0_2 l0_3=some (r1,r2)) :
  Calls Tryd.prog 17 #[.agg #[.string a0_0,.slice A0_1 l0_1.length c0_1,.int .i64 a0_2,.slice A0_3 l0_3.length c0_3]] w fun e w'=>e = .returned (.tuple #[.int .i64 r1,.int .i64 r2])∧Below w.heap.size w w':=by
 have hu25:=Tryd.underlying25
 have hu33:=Tryd.underlying33
 have HR0_1:=aK_ hr0_1
 have HC0_1:=aK_ hc0_1
 clear hr0_1 hc0_1
 have HR0_3:=aK_ hr0_3
 have HC0_3:=aK_ hc0_3
 clear hr0_3 hc0_3
 have HB:=aK_ (Below.refl w.heap.size w)
 have H:((zAT.f k a0_0 l0_1 a0_2 l0_3).bind fun t211=>(if t211=0 then (if (l0_3.length:Int) > 1024 then (some (1024,2)) else (zAW.l0 k 0 0 a0_0 l0_1 a0_2 l0_3)) else (some ((-1),t211))))=some (r1,r2):=h
 clear h
 replace H:=Option.bind_eq_some_iff.mp H
 obtain ⟨t211,A20,H⟩:=H
 replace H:(if t211=0 then (if (l0_3.length:Int) > 1024 then (some (1024,2)) else (zAW.l0 k 0 0 a0_0 l0_1 a0_2 l0_3)) else (some ((-1),t211)))=some (r1,r2):=H
 have A2:=aK_ A20
 clear A20
 by_cases c3:t211=0
 ·rw [if_pos c3] at H
  have c3b0:(t211 == 0)=true:=beq_iff_eq.mpr c3
  have c3b1:(t211 != 0)=false:=bne_eq_false_iff_eq.mpr c3
  clear c3
  by_cases c4:(l0_3.length:Int) > 1024
  ·rw [if_pos c4] at H
   have c4b0:decide (1024<(l0_3.length:Int))=true:=decide_eq_true c4
   have c4b1:decide (1024<l0_3.length)=true:=decide_eq_true (by omega)
   clear c4
   simp only [Option.some.injEq,Prod.mk.injEq] at H
   obtain ⟨rfl,rfl⟩:=H
   go_enter Tryd.func17,Tryd.ntmps17
   go_wp2_with (first|((with_reducible refine zAf (N:=1) rfl ?_);(try (refine gate_guard (by rfl) ?_;dsimp only));refine zAc ?hg (N:=1) ?hd (cs:=#[.string a0_0,.slice A0_1 l0_1.length c0_1,.int .i64 a0_2,.slice A0_3 l0_3.length c0_3]) (t:=25) ?hr ?_;(case hd=>rfl);(case hg=>rfl);(case hr=>first|(go_simp;done)|(go_simp;rfl));intro gb210 hg w5 hbox hb;have n0_:=aK_ (zAL (by repeat (first|(with_reducible first|exact HB.out|apply zAB|apply zAA|apply zAC)|exact HB.out)) hb);have n1_:=aK_ (hbox);have n2_:=aK_ ((by rw [hg];exact (zAK (by repeat (first|(with_reducible first|exact HB.out|apply zAB|apply zAA|apply zAC)|exact HB.out))):w.heap.size≤gb210));have n3_:=aK_ ((by rw [hg];exact (zAK (by repeat (first|(with_reducible first|exact HB.out|apply zAB|apply zAA|apply zAC)|exact HB.out))):w.heap.size≤gb210));clear HB;have HB:=n0_;have BK210:=n1_;have GW210:=n2_;have GE210:=n3_;clear n0_ n1_ n2_ n3_;clear hb hbox hg;have hcz6_0:w5.cell? ⟨gb210,0,none⟩=some (.string a0_0):=(zAE BK210.out 0).trans rfl;have hcz6_1:w5.cell? ⟨gb210,1,none⟩=some (.slice A0_1 l0_1.length c0_1):=(zAE BK210.out 1).trans rfl;have hcz6_2:w5.cell? ⟨gb210,2,none⟩=some (.int .i64 a0_2):=(zAE BK210.out 2).trans rfl;have hcz6_3:w5.cell? ⟨gb210,3,none⟩=some (.slice A0_3 l0_3.length c0_3):=(zAE BK210.out 3).trans rfl;have hfz6_0:=zAD BK210.out 0;have hfz6_1:=zAD BK210.out 1;have hfz6_2:=zAD BK210.out 2;have hfz6_3:=zAD BK210.out 3)|((with_reducible refine zAb (f:=40) rfl ?_);refine goesL_ (some 10) rfl rfl Tryd.func40 (by kernel_rfl) rfl #[.agg #[.string a0_0,.slice A0_1 l0_1.length c0_1,.int .i64 a0_2,.slice A0_3 l0_3.length c0_3]] rfl (by (try simp only [List.map_toArray,List.map_cons,List.map_nil]);first|done|rfl|(simp only [List.length_drop,List.length_take];rfl)) ?_;(with_reducible refine (zAT.calls k a0_0 _ _ l0_1 a0_2 _ _ l0_3 t211 _ ?side1 ?side2 ?side3 ?side4 A2.out).mono ?_);(case side1=>repeat (first|exact (Kd.C_below HR0_1.out HB.out)|(with_reducible refine Kd.C_alloc ?_ _)|(with_reducible refine Kd.C_drewN ?_ _)|(with_reducible refine Kd.C_drew ?_)));(case side2=>exact HC0_1.out);(case side3=>repeat (first|exact (Kd.C_below HR0_3.out HB.out)|(with_reducible refine Kd.C_alloc ?_ _)|(with_reducible refine Kd.C_drewN ?_ _)|(with_reducible refine Kd.C_drew ?_)));(case side4=>exact HC0_3.out);rintro e w7 ⟨rfl,hb⟩;refine ⟨_,rfl,?_⟩;have n0_:=aK_ (zAX (g:=gb210) (o:=.cells #[.string a0_0,.slice A0_1 l0_1.length c0_1,.int .i64 a0_2,.slice A0_3 l0_3.length c0_3] 25 (0,0)) (by (with_reducible repeat (first|refine zAG ?_ _|refine zAI ?_|refine zAH ?_ _));exact BK210.out) hb);have n1_:=aK_ (zAL (by repeat (first|(with_reducible first|exact HB.out|apply zAB|apply zAA|apply zAC|refine zAF ?_ GE210.out)|exact HB.out)) hb);clear BK210;clear HB;have BK210:=n0_;have HB:=n1_;clear n0_ n1_;(try clear hb);(try clear hb2);(try clear hk);(try clear hi);have hcz8_0:w7.cell? ⟨gb210,0,none⟩=some (.string a0_0):=(zAE BK210.out 0).trans rfl;have hcz8_1:w7.cell? ⟨gb210,1,none⟩=some (.slice A0_1 l0_1.length c0_1):=(zAE BK210.out 1).trans rfl;have hcz8_2:w7.cell? ⟨gb210,2,none⟩=some (.int .i64 a0_2):=(zAE BK210.out 2).trans rfl;have hcz8_3:w7.cell? ⟨gb210,3,none⟩=some (.slice A0_3 l0_3.length c0_3):=(zAE BK210.out 3).trans rfl;have hfz8_0:=zAD BK210.out 0;have hfz8_1:=zAD BK210.out 1;have hfz8_2:=zAD BK210.out 2;have hfz8_3:=zAD BK210.out 3))
   go_ret2
   exact ⟨by first|rfl|(simp [zAQ,zAP] <;> rfl)|(simp [*,zAQ,zAP] <;> rfl),by repeat (first|(with_reducible first|exact HB.out|apply zAB|apply zAA|apply zAC|refine zAF ?_ GE210.out)|exact HB.out)⟩
  ·rw [if_neg c4] at H
   have c4b0:decide (1024<(l0_3.length:Int))=false:=decide_eq_false c4
   have c4b1:decide (1024<l0_3.length)=false:=decide_eq_false (by omega)
   clear c4
   have H':=aK_ H
   clear H
   go_enter Tryd.func17,Tryd.ntmps17
   go_wp2_with (first|((with_reducible refine zAf (N:=1) rfl ?_);(try (refine gate_guard (by rfl) ?_;dsimp only));refine zAc ?hg (N:=1) ?hd (cs:=#[.string a0_0,.slice A0_1 l0_1.length c0_1,.int .i64 a0_2,.slice A0_3 l0_3.length c0_3]) (t:=25) ?hr ?_;(case hd=>rfl);(case hg=>rfl);(case hr=>first|(go_simp;done)|(go_simp;rfl));intro gb210 hg w9 hbox hb;have n0_:=aK_ (zAL (by repeat (first|(with_reducible first|exact HB.out|apply zAB|apply zAA|apply zAC)|exact HB.out)) hb);have n1_:=aK_ (hbox);have n2_:=aK_ ((by rw [hg];exact (zAK (by repeat (first|(with_reducible first|exact HB.out|apply zAB|apply zAA|apply zAC)|exact HB.out))):w.heap.size≤gb210));have n3_:=aK_ ((by rw [hg];exact (zAK (by repeat (first|(with_reducible first|exact HB.out|apply zAB|apply zAA|apply zAC)|exact HB.out))):w.heap.size≤gb210));clear HB;have HB:=n0_;have BK210:=n1_;have GW210:=n2_;have GE210:=n3_;clear n0_ n1_ n2_ n3_;clear hb hbox hg;have hcz10_0:w9.cell? ⟨gb210,0,none⟩=some (.string a0_0):=(zAE BK210.out 0).trans rfl;have hcz10_1:w9.cell? ⟨gb210,1,none⟩=some (.slice A0_1 l0_1.length c0_1):=(zAE BK210.out 1).trans rfl;have hcz10_2:w9.cell? ⟨gb210,2,none⟩=some (.int .i64 a0_2):=(zAE BK210.out 2).trans rfl;have hcz10_3:w9.cell? ⟨gb210,3,none⟩=some (.slice A0_3 l0_3.length c0_3):=(zAE BK210.out 3).trans rfl;have hfz10_0:=zAD BK210.out 0;have hfz10_1:=zAD BK210.out 1;have hfz10_2:=zAD BK210.out 2;have hfz10_3:=zAD BK210.out 3)|((with_reducible refine zAb (f:=40) rfl ?_);refine goesL_ (some 10) rfl rfl Tryd.func40 (by kernel_rfl) rfl #[.agg #[.string a0_0,.slice A0_1 l0_1.length c0_1,.int .i64 a0_2,.slice A0_3 l0_3.length c0_3]] rfl (by (try simp only [List.map_toArray,List.map_cons,List.map_nil]);first|done|rfl|(simp only [List.length_drop,List.length_take];rfl)) ?_;(with_reducible refine (zAT.calls k a0_0 _ _ l0_1 a0_2 _ _ l0_3 t211 _ ?side1 ?side2 ?side3 ?side4 A2.out).mono ?_);(case side1=>repeat (first|exact (Kd.C_below HR0_1.out HB.out)|(with_reducible refine Kd.C_alloc ?_ _)|(with_reducible refine Kd.C_drewN ?_ _)|(with_reducible refine Kd.C_drew ?_)));(case side2=>exact HC0_1.out);(case side3=>repeat (first|exact (Kd.C_below HR0_3.out HB.out)|(with_reducible refine Kd.C_alloc ?_ _)|(with_reducible refine Kd.C_drewN ?_ _)|(with_reducible refine Kd.C_drew ?_)));(case side4=>exact HC0_3.out);rintro e w11 ⟨rfl,hb⟩;refine ⟨_,rfl,?_⟩;have n0_:=aK_ (zAX (g:=gb210) (o:=.cells #[.string a0_0,.slice A0_1 l0_1.length c0_1,.int .i64 a0_2,.slice A0_3 l0_3.length c0_3] 25 (0,0)) (by (with_reducible repeat (first|refine zAG ?_ _|refine zAI ?_|refine zAH ?_ _));exact BK210.out) hb);have n1_:=aK_ (zAL (by repeat (first|(with_reducible first|exact HB.out|apply zAB|apply zAA|apply zAC|refine zAF ?_ GE210.out)|exact HB.out)) hb);clear BK210;clear HB;have BK210:=n0_;have HB:=n1_;clear n0_ n1_;(try clear hb);(try clear hb2);(try clear hk);(try clear hi);have hcz12_0:w11.cell? ⟨gb210,0,none⟩=some (.string a0_0):=(zAE BK210.out 0).trans rfl;have hcz12_1:w11.cell? ⟨gb210,1,none⟩=some (.slice A0_1 l0_1.length c0_1):=(zAE BK210.out 1).trans rfl;have hcz12_2:w11.cell? ⟨gb210,2,none⟩=some (.int .i64 a0_2):=(zAE BK210.out 2).trans rfl;have hcz12_3:w11.cell? ⟨gb210,3,none⟩=some (.slice A0_3 l0_3.length c0_3):=(zAE BK210.out 3).trans rfl;have hfz12_0:=zAD BK210.out 0;have hfz12_1:=zAD BK210.out 1;have hfz12_2:=zAD BK210.out 2;have hfz12_3:=zAD BK210.out 3))
   (try simp only [Act.put,List.setIfInBounds_toArray,List.set_cons_zero,List.set_cons_succ])
   go_loopg [5,6] k (fun kq v5 v6 w'=>∃ (x5_1:Int) (x6_1:Int),v5 = .int .i64 x5_1∧v6 = .int .i64 x6_1∧zAa (zAW.l0 kq x5_1 x6_1 a0_0 l0_1 a0_2 l0_3=some (r1,r2))∧zAa (kq≤k)∧zAa (w'.heap[gb210]?=some (.cells #[.string a0_0,(.slice A0_1 l0_1.length c0_1),.int .i64 a0_2,(.slice A0_3 l0_3.length c0_3)] 25 (0,0)))∧zAa (Below w.heap.size w w'))
   case atStart=>exact ⟨(0),(0),(by first|rfl|(simp;done)|(simp [*];done)),(by first|rfl|(simp;done)|(simp [*];done)),H',⟨Nat.le_refl _⟩,⟨by (with_reducible repeat (first|refine zAG ?_ _|refine zAI ?_|refine zAH ?_ _));exact BK210.out⟩,⟨by repeat (first|(with_reducible first|exact HB.out|apply zAB|apply zAA|apply zAC|refine zAF ?_ GE210.out)|exact HB.out)⟩⟩
   case round =>
    clear H'
    try clear c1
    try clear p2
    try clear c3
    try clear c3b0
    try clear c3b1
    try clear c4
    try clear c4b0
    try clear c4b1
    try clear hcz10_0
    try clear hcz10_1
    try clear hcz10_2
    try clear hcz10_3
    try clear hcz12_0
    try clear hcz12_1
    try clear hcz12_2
    try clear hcz12_3
    try clear hcz6_0
    try clear hcz6_1
    try clear hcz6_2
    try clear hcz6_3
    try clear hcz8_0
    try clear hcz8_1
    try clear hcz8_2
    try clear hcz8_3
    try clear hfz10_0
    try clear hfz10_1
    try clear hfz10_2
    try clear hfz10_3
    try clear hfz12_0
    try clear hfz12_1
    try clear hfz12_2
    try clear hfz12_3
    try clear hfz6_0
    try clear hfz6_1
    try clear hfz6_2
    try clear hfz6_3
    try clear hfz8_0
    try clear hfz8_1
    try clear hfz8_2
    try clear hfz8_3
    obtain ⟨x5_1,x6_1,rfl,rfl,HA,HK1,BK210,HB⟩:=hrel
    cases gk with
    |zero=>exact absurd HA.out (by simp [zAW.l0])
    |succ k1 =>
     have H:=HA.out
     clear HA
     simp only [zAW.l0] at H
     by_cases c13:x6_1<(l0_3.length:Int)
     ·rw [if_pos c13] at H
      have c13b0:decide (x6_1<(l0_3.length:Int))=true:=decide_eq_true c13
      clear c13
      by_cases c14:0≤x6_1
      ·rw [if_pos c14] at H
       have c14b0:decide (0≤x6_1)=true:=decide_eq_true c14
       clear c14
       replace H:=Option.bind_eq_some_iff.mp H
       obtain ⟨t214,A150,H⟩:=H
       replace H:(if t214<0 then (zAW.j1 k1 x5_1 x6_1 t214 true a0_0 l0_1 a0_2 l0_3 ((zAJ l0_3 x6_1).f0) ((zAJ l0_3 x6_1).f1) ((zAJ l0_3 x6_1).f2) ((zAJ l0_3 x6_1).f3) ((zAJ l0_3 x6_1).f4) ((zAJ l0_3 x6_1).f5)) else ((zAU.f k1 ((zAJ l0_3 x6_1).f0) ((zAJ l0_3 x6_1).f1) ((zAJ l0_3 x6_1).f2) ((zAJ l0_3 x6_1).f3) ((zAJ l0_3 x6_1).f4) ((zAJ l0_3 x6_1).f5) (l0_1.length:Int)).bind fun t215=>(if t215=true then (zAW.j1 k1 x5_1 x6_1 t214 (decide (x5_1<t214)) a0_0 l0_1 a0_2 l0_3 ((zAJ l0_3 x6_1).f0) ((zAJ l0_3 x6_1).f1) ((zAJ l0_3 x6_1).f2) ((zAJ l0_3 x6_1).f3) ((zAJ l0_3 x6_1).f4) ((zAJ l0_3 x6_1).f5)) else (zAW.j1 k1 x5_1 x6_1 t214 true a0_0 l0_1 a0_2 l0_3 ((zAJ l0_3 x6_1).f0) ((zAJ l0_3 x6_1).f1) ((zAJ l0_3 x6_1).f2) ((zAJ l0_3 x6_1).f3) ((zAJ l0_3 x6_1).f4) ((zAJ l0_3 x6_1).f5)))))=some (r1,r2):=H
       have A15:=aK_ A150
       clear A150
       have HC16:=aK_ H
       clear H
       have hcz17_0:wr.cell? ⟨gb210,0,none⟩=some (.string a0_0):=(zAE BK210.out 0).trans rfl
       have hcz17_1:wr.cell? ⟨gb210,1,none⟩=some (.slice A0_1 l0_1.length c0_1):=(zAE BK210.out 1).trans rfl
       have hcz17_2:wr.cell? ⟨gb210,2,none⟩=some (.int .i64 a0_2):=(zAE BK210.out 2).trans rfl
       have hcz17_3:wr.cell? ⟨gb210,3,none⟩=some (.slice A0_3 l0_3.length c0_3):=(zAE BK210.out 3).trans rfl
       have hfz17_0:=zAD BK210.out 0
       have hfz17_1:=zAD BK210.out 1
       have hfz17_2:=zAD BK210.out 2
       have hfz17_3:=zAD BK210.out 3
       have p212:0≤(x6_1:Int):=of_decide_eq_true (by first|(with_reducible assumption)|assumption)
       have q212:x6_1<(l0_3.length:Int):=of_decide_eq_true (by first|(with_reducible assumption)|assumption)
       obtain ⟨ad212,A212_4,c212_4,e212,hx212_0,hx212_1,hx212_2,hx212_3,hx212_4,hx212_5,hl212_4,hi212_4⟩:=at_T33 HR0_3.out x6_1 p212 q212
       cases e212
       replace hx212_0:=(HB.out.cell (World.block_lt_of_cell? w _ hx212_0)).trans hx212_0
       replace hx212_1:=(HB.out.cell (World.block_lt_of_cell? w _ hx212_1)).trans hx212_1
       replace hx212_2:=(HB.out.cell (World.block_lt_of_cell? w _ hx212_2)).trans hx212_2
       replace hx212_3:=(HB.out.cell (World.block_lt_of_cell? w _ hx212_3)).trans hx212_3
       replace hx212_4:=(HB.out.cell (World.block_lt_of_cell? w _ hx212_4)).trans hx212_4
       replace hx212_5:=(HB.out.cell (World.block_lt_of_cell? w _ hx212_5)).trans hx212_5
       have HR212_4:=aK_ hi212_4
       have HC212_4:=aK_ hl212_4
       clear hi212_4 hl212_4
       replace p212:=eq_true p212
       replace q212:=eq_true q212
       go_upto_region 12 with (first|((with_reducible refine zAf (N:=7) rfl ?_);(try (refine gate_guard (by rfl) ?_;dsimp only));refine zAc ?hg (N:=7) ?hd (cs:=#[.int .i64 0,.int .i64 0,.int .i64 0,.int .i64 0,.slice none 0 0,.int .i64 0]) (t:=33) ?hr ?_;(case hd=>rfl);(case hg=>rfl);(case hr=>first|(go_simp;done)|(go_simp;rfl));intro gb213 hg w18 hbox hb;have n0_:=aK_ (zAX (g:=gb210) (o:=.cells #[.string a0_0,.slice A0_1 l0_1.length c0_1,.int .i64 a0_2,.slice (some ad212) l0_3.length c0_3] 25 (0,0)) (by (with_reducible repeat (first|refine zAG ?_ _|refine zAI ?_|refine zAH ?_ _));exact BK210.out) hb);have n1_:=aK_ (zAL (by repeat (first|(with_reducible first|exact HB.out|apply zAB|apply zAA|apply zAC|refine zAF ?_ GE210.out)|exact HB.out)) hb);have n2_:=aK_ (hbox);have n3_:=aK_ ((by rw [hg];exact (zAK (by repeat (first|(with_reducible first|exact HB.out|apply zAB|apply zAA|apply zAC|refine zAF ?_ GE210.out)|exact HB.out))):w.heap.size≤gb213));have n4_:=aK_ ((by rw [hg];exact (zAK (by repeat (first|(with_reducible first|exact HB.out|apply zAB|apply zAA|apply zAC|refine zAF ?_ GE210.out)|exact HB.out))):w.heap.size≤gb213));have n5_:=aK_ ((by rw [hg];exact Nat.ne_of_lt (blk_lt (g:=gb210) (o:=.cells #[.string a0_0,.slice A0_1 l0_1.length c0_1,.int .i64 a0_2,.slice (some ad212) l0_3.length c0_3] 25 (0,0)) (by (with_reducible repeat (first|refine zAG ?_ _|refine zAI ?_|refine zAH ?_ _));exact BK210.out)):gb210≠gb213));have n6_:=aK_ ((by rw [hg];exact Nat.ne_of_gt (blk_lt (g:=gb210) (o:=.cells #[.string a0_0,.slice A0_1 l0_1.length c0_1,.int .i64 a0_2,.slice (some ad212) l0_3.length c0_3] 25 (0,0)) (by (with_reducible repeat (first|refine zAG ?_ _|refine zAI ?_|refine zAH ?_ _));exact BK210.out)):gb213≠gb210));clear BK210;clear HB;have BK210:=n0_;have HB:=n1_;have BK213:=n2_;have GW213:=n3_;have GE213:=n4_;have NB210_213:=n5_;have NB213_210:=n6_;clear n0_ n1_ n2_ n3_ n4_ n5_ n6_;clear hb hbox hg;have hnb19:=NB213_210.out;have hnc19:=NB210_213.out;have hcz20_0:w18.cell? ⟨gb213,0,none⟩=some (.int .i64 0):=(zAE BK213.out 0).trans rfl;have hcz20_1:w18.cell? ⟨gb213,1,none⟩=some (.int .i64 0):=(zAE BK213.out 1).trans rfl;have hcz20_2:w18.cell? ⟨gb213,2,none⟩=some (.int .i64 0):=(zAE BK213.out 2).trans rfl;have hcz20_3:w18.cell? ⟨gb213,3,none⟩=some (.int .i64 0):=(zAE BK213.out 3).trans rfl;have hcz20_4:w18.cell? ⟨gb213,4,none⟩=some (.slice none 0 0):=(zAE BK213.out 4).trans rfl;have hcz20_5:w18.cell? ⟨gb213,5,none⟩=some (.int .i64 0):=(zAE BK213.out 5).trans rfl;have hfz20_0:=zAD BK213.out 0;have hfz20_1:=zAD BK213.out 1;have hfz20_2:=zAD BK213.out 2;have hfz20_3:=zAD BK213.out 3;have hfz20_4:=zAD BK213.out 4;have hfz20_5:=zAD BK213.out 5)|((with_reducible refine zAb (f:=24) rfl ?_);refine goesL_ (some 31) rfl rfl Tryd.func24 (by kernel_rfl) rfl #[.agg #[.int .i64 ((zAJ l0_3 x6_1).f0),.int .i64 ((zAJ l0_3 x6_1).f1),.int .i64 ((zAJ l0_3 x6_1).f2),.int .i64 ((zAJ l0_3 x6_1).f3),.slice A212_4 ((zAJ l0_3 x6_1).f4).length c212_4,.int .i64 ((zAJ l0_3 x6_1).f5)]] rfl (by (try simp only [List.map_toArray,List.map_cons,List.map_nil]);first|done|rfl|(simp only [List.length_drop,List.length_take];rfl)) ?_;(with_reducible refine (zAM.calls k1 ((zAJ l0_3 x6_1).f0) ((zAJ l0_3 x6_1).f1) ((zAJ l0_3 x6_1).f2) ((zAJ l0_3 x6_1).f3) _ _ ((zAJ l0_3 x6_1).f4) ((zAJ l0_3 x6_1).f5) t214 _ ?side1 ?side2 A15.out).mono ?_);(case side1=>exact Kd.C_below HR212_4.out (by repeat (first|(with_reducible first|exact HB.out|apply zAB|apply zAA|apply zAC|refine zAF ?_ GE210.out|refine zAF ?_ GE213.out)|exact HB.out)));(case side2=>exact HC212_4.out);rintro e w21 ⟨rfl,hb⟩;refine ⟨_,rfl,?_⟩;have n0_:=aK_ (zAX (g:=gb210) (o:=.cells #[.string a0_0,.slice A0_1 l0_1.length c0_1,.int .i64 a0_2,.slice (some ad212) l0_3.length c0_3] 25 (0,0)) (by (with_reducible repeat (first|refine zAG ?_ _|refine zAI ?_|refine zAH ?_ _));refine blk_far ?_ NB210_213.out _;(with_reducible repeat (first|refine zAG ?_ _|refine zAI ?_|refine zAH ?_ _));refine blk_far ?_ NB210_213.out _;(with_reducible repeat (first|refine zAG ?_ _|refine zAI ?_|refine zAH ?_ _));refine blk_far ?_ NB210_213.out _;(with_reducible repeat (first|refine zAG ?_ _|refine zAI ?_|refine zAH ?_ _));refine blk_far ?_ NB210_213.out _;(with_reducible repeat (first|refine zAG ?_ _|refine zAI ?_|refine zAH ?_ _));refine blk_far ?_ NB210_213.out _;(with_reducible repeat (first|refine zAG ?_ _|refine zAI ?_|refine zAH ?_ _));refine blk_far ?_ NB210_213.out _;(with_reducible repeat (first|refine zAG ?_ _|refine zAI ?_|refine zAH ?_ _));exact BK210.out) hb);have n1_:=aK_ (zAX (g:=gb213) (o:=.cells #[.int .i64 ((zAJ l0_3 x6_1).f0),.int .i64 ((zAJ l0_3 x6_1).f1),.int .i64 ((zAJ l0_3 x6_1).f2),.int .i64 ((zAJ l0_3 x6_1).f3),.slice A212_4 ((zAJ l0_3 x6_1).f4).length c212_4,.int .i64 ((zAJ l0_3 x6_1).f5)] 33 (0,0)) (by (with_reducible repeat (first|refine zAG ?_ _|refine zAI ?_|refine zAH ?_ _));refine zAi (cs:=#[.int .i64 ((zAJ l0_3 x6_1).f0),.int .i64 ((zAJ l0_3 x6_1).f1),.int .i64 ((zAJ l0_3 x6_1).f2),.int .i64 ((zAJ l0_3 x6_1).f3),.slice A212_4 ((zAJ l0_3 x6_1).f4).length c212_4,.int .i64 0]) ?_ 5 _ rfl;(with_reducible repeat (first|refine zAG ?_ _|refine zAI ?_|refine zAH ?_ _));refine zAi (cs:=#[.int .i64 ((zAJ l0_3 x6_1).f0),.int .i64 ((zAJ l0_3 x6_1).f1),.int .i64 ((zAJ l0_3 x6_1).f2),.int .i64 ((zAJ l0_3 x6_1).f3),.slice none 0 0,.int .i64 0]) ?_ 4 _ rfl;(with_reducible repeat (first|refine zAG ?_ _|refine zAI ?_|refine zAH ?_ _));refine zAi (cs:=#[.int .i64 ((zAJ l0_3 x6_1).f0),.int .i64 ((zAJ l0_3 x6_1).f1),.int .i64 ((zAJ l0_3 x6_1).f2),.int .i64 0,.slice none 0 0,.int .i64 0]) ?_ 3 _ rfl;(with_reducible repeat (first|refine zAG ?_ _|refine zAI ?_|refine zAH ?_ _));refine zAi (cs:=#[.int .i64 ((zAJ l0_3 x6_1).f0),.int .i64 ((zAJ l0_3 x6_1).f1),.int .i64 0,.int .i64 0,.slice none 0 0,.int .i64 0]) ?_ 2 _ rfl;(with_reducible repeat (first|refine zAG ?_ _|refine zAI ?_|refine zAH ?_ _));refine zAi (cs:=#[.int .i64 ((zAJ l0_3 x6_1).f0),.int .i64 0,.int .i64 0,.int .i64 0,.slice none 0 0,.int .i64 0]) ?_ 1 _ rfl;(with_reducible repeat (first|refine zAG ?_ _|refine zAI ?_|refine zAH ?_ _));refine zAi (cs:=#[.int .i64 0,.int .i64 0,.int .i64 0,.int .i64 0,.slice none 0 0,.int .i64 0]) ?_ 0 _ rfl;(with_reducible repeat (first|refine zAG ?_ _|refine zAI ?_|refine zAH ?_ _));exact BK213.out) hb);have n2_:=aK_ (zAL (by repeat (first|(with_reducible first|exact HB.out|apply zAB|apply zAA|apply zAC|refine zAF ?_ GE210.out|refine zAF ?_ GE213.out)|exact HB.out)) hb);clear BK210;clear BK213;clear HB;have BK210:=n0_;have BK213:=n1_;have HB:=n2_;clear n0_ n1_ n2_;(try clear hb);(try clear hb2);(try clear hk);(try clear hi)))
       (try simp only [Act.put,List.setIfInBounds_toArray,List.set_cons_zero,List.set_cons_succ])
       go_cut [46] (fun v46 wc=>∃ (kq:Nat) (x46_15:Bool),v46 = .bool x46_15∧zAa (zAW.j1 kq x5_1 x6_1 t214 x46_15 a0_0 l0_1 a0_2 l0_3 ((zAJ l0_3 x6_1).f0) ((zAJ l0_3 x6_1).f1) ((zAJ l0_3 x6_1).f2) ((zAJ l0_3 x6_1).f3) ((zAJ l0_3 x6_1).f4) ((zAJ l0_3 x6_1).f5)=some (r1,r2))∧zAa (kq≤k1)∧zAa (wc.heap[gb210]?=some (.cells #[.string a0_0,(.slice A0_1 l0_1.length c0_1),.int .i64 a0_2,(.slice (some ad212) l0_3.length c0_3)] 25 (0,0)))∧zAa (wc.heap[gb213]?=some (.cells #[.int .i64 ((zAJ l0_3 x6_1).f0),.int .i64 ((zAJ l0_3 x6_1).f1),.int .i64 ((zAJ l0_3 x6_1).f2),.int .i64 ((zAJ l0_3 x6_1).f3),(.slice A212_4 ((zAJ l0_3 x6_1).f4).length c212_4),.int .i64 ((zAJ l0_3 x6_1).f5)] 33 (0,0)))∧zAa (Below w.heap.size w wc))
       case first =>
        have H:=HC16.out
        clear HC16
        by_cases c22:t214<0
        ·rw [if_pos c22] at H
         have c22b0:decide (t214<0)=true:=decide_eq_true c22
         clear c22
         (first|rw [c22b0]|(simp only [i64_w,i32_w];rw [c22b0])|skip)
         have H':=aK_ H
         clear H
         go_wp2
         go_meet
         case rel=>exact ⟨_,(true),(by first|rfl|(simp;done)|(simp [*];done)),H',⟨by have:=HK1.out;first|omega|exact Nat.le_refl _⟩,⟨by (with_reducible repeat (first|refine zAG ?_ _|refine zAI ?_|refine zAH ?_ _));exact BK210.out⟩,⟨by (with_reducible repeat (first|refine zAG ?_ _|refine zAI ?_|refine zAH ?_ _));exact BK213.out⟩,⟨by repeat (first|(with_reducible first|exact HB.out|apply zAB|apply zAA|apply zAC|refine zAF ?_ GE210.out|refine zAF ?_ GE213.out)|exact HB.out)⟩⟩
        ·rw [if_neg c22] at H
         have c22b0:decide (t214<0)=false:=decide_eq_false c22
         clear c22
         (first|rw [c22b0]|(simp only [i64_w,i32_w];rw [c22b0])|skip)
         replace H:=Option.bind_eq_some_iff.mp H
         obtain ⟨t215,A230,H⟩:=H
         replace H:(if t215=true then (zAW.j1 k1 x5_1 x6_1 t214 (decide (x5_1<t214)) a0_0 l0_1 a0_2 l0_3 ((zAJ l0_3 x6_1).f0) ((zAJ l0_3 x6_1).f1) ((zAJ l0_3 x6_1).f2) ((zAJ l0_3 x6_1).f3) ((zAJ l0_3 x6_1).f4) ((zAJ l0_3 x6_1).f5)) else (zAW.j1 k1 x5_1 x6_1 t214 true a0_0 l0_1 a0_2 l0_3 ((zAJ l0_3 x6_1).f0) ((zAJ l0_3 x6_1).f1) ((zAJ l0_3 x6_1).f2) ((zAJ l0_3 x6_1).f3) ((zAJ l0_3 x6_1).f4) ((zAJ l0_3 x6_1).f5)))=some (r1,r2):=H
         have A23:=aK_ A230
         clear A230
         by_cases c24:t215=true
         ·subst c24
          have H1:(zAW.j1 k1 x5_1 x6_1 t214 (decide (x5_1<t214)) a0_0 l0_1 a0_2 l0_3 ((zAJ l0_3 x6_1).f0) ((zAJ l0_3 x6_1).f1) ((zAJ l0_3 x6_1).f2) ((zAJ l0_3 x6_1).f3) ((zAJ l0_3 x6_1).f4) ((zAJ l0_3 x6_1).f5))=some (r1,r2):=by rw [if_pos rfl] at H;exact H
          clear H
          have H:=H1
          clear H1
          have H':=aK_ H
          clear H
          have hnb25:=NB213_210.out
          have hnc25:=NB210_213.out
          have hcz26_0:w21.cell? ⟨gb213,0,none⟩=some (.int .i64 ((zAJ l0_3 x6_1).f0)):=(zAE BK213.out 0).trans rfl
          have hcz26_1:w21.cell? ⟨gb213,1,none⟩=some (.int .i64 ((zAJ l0_3 x6_1).f1)):=(zAE BK213.out 1).trans rfl
          have hcz26_2:w21.cell? ⟨gb213,2,none⟩=some (.int .i64 ((zAJ l0_3 x6_1).f2)):=(zAE BK213.out 2).trans rfl
          have hcz26_3:w21.cell? ⟨gb213,3,none⟩=some (.int .i64 ((zAJ l0_3 x6_1).f3)):=(zAE BK213.out 3).trans rfl
          have hcz26_4:w21.cell? ⟨gb213,4,none⟩=some (.slice A212_4 ((zAJ l0_3 x6_1).f4).length c212_4):=(zAE BK213.out 4).trans rfl
          have hcz26_5:w21.cell? ⟨gb213,5,none⟩=some (.int .i64 ((zAJ l0_3 x6_1).f5)):=(zAE BK213.out 5).trans rfl
          have hfz26_0:=zAD BK213.out 0
          have hfz26_1:=zAD BK213.out 1
          have hfz26_2:=zAD BK213.out 2
          have hfz26_3:=zAD BK213.out 3
          have hfz26_4:=zAD BK213.out 4
          have hfz26_5:=zAD BK213.out 5
          have hcz27_0:w21.cell? ⟨gb210,0,none⟩=some (.string a0_0):=(zAE BK210.out 0).trans rfl
          have hcz27_1:w21.cell? ⟨gb210,1,none⟩=some (.slice A0_1 l0_1.length c0_1):=(zAE BK210.out 1).trans rfl
          have hcz27_2:w21.cell? ⟨gb210,2,none⟩=some (.int .i64 a0_2):=(zAE BK210.out 2).trans rfl
          have hcz27_3:w21.cell? ⟨gb210,3,none⟩=some (.slice (some ad212) l0_3.length c0_3):=(zAE BK210.out 3).trans rfl
          have hfz27_0:=zAD BK210.out 0
          have hfz27_1:=zAD BK210.out 1
          have hfz27_2:=zAD BK210.out 2
          have hfz27_3:=zAD BK210.out 3
          go_wp2_with (first|(go_at_call 41;(with_reducible refine (zAU.calls k1 ((zAJ l0_3 x6_1).f0) ((zAJ l0_3 x6_1).f1) ((zAJ l0_3 x6_1).f2) ((zAJ l0_3 x6_1).f3) _ _ ((zAJ l0_3 x6_1).f4) ((zAJ l0_3 x6_1).f5) (l0_1.length:Int) true _ ?side1 ?side2 A23.out).mono ?_);(case side1=>repeat (first|exact (Kd.C_below HR212_4.out HB.out)|(with_reducible refine Kd.C_alloc ?_ _)|(with_reducible refine Kd.C_drewN ?_ _)|(with_reducible refine Kd.C_drew ?_)));(case side2=>exact HC212_4.out);rintro e w28 ⟨rfl,hb⟩;have n0_:=aK_ (zAX (g:=gb210) (o:=.cells #[.string a0_0,.slice A0_1 l0_1.length c0_1,.int .i64 a0_2,.slice (some ad212) l0_3.length c0_3] 25 (0,0)) (by (with_reducible repeat (first|refine zAG ?_ _|refine zAI ?_|refine zAH ?_ _));exact BK210.out) hb);have n1_:=aK_ (zAX (g:=gb213) (o:=.cells #[.int .i64 ((zAJ l0_3 x6_1).f0),.int .i64 ((zAJ l0_3 x6_1).f1),.int .i64 ((zAJ l0_3 x6_1).f2),.int .i64 ((zAJ l0_3 x6_1).f3),.slice A212_4 ((zAJ l0_3 x6_1).f4).length c212_4,.int .i64 ((zAJ l0_3 x6_1).f5)] 33 (0,0)) (by (with_reducible repeat (first|refine zAG ?_ _|refine zAI ?_|refine zAH ?_ _));exact BK213.out) hb);have n2_:=aK_ (zAL (by repeat (first|(with_reducible first|exact HB.out|apply zAB|apply zAA|apply zAC|refine zAF ?_ GE210.out|refine zAF ?_ GE213.out)|exact HB.out)) hb);clear BK210;clear BK213;clear HB;have BK210:=n0_;have BK213:=n1_;have HB:=n2_;clear n0_ n1_ n2_;(try clear hb);(try clear hb2);(try clear hk);(try clear hi)))
          go_meet
          case rel=>exact ⟨_,(decide (x5_1<t214)),(by first|rfl|(simp;done)|(simp [*];done)),H',⟨by have:=HK1.out;first|omega|exact Nat.le_refl _⟩,⟨by (with_reducible repeat (first|refine zAG ?_ _|refine zAI ?_|refine zAH ?_ _));exact BK210.out⟩,⟨by (with_reducible repeat (first|refine zAG ?_ _|refine zAI ?_|refine zAH ?_ _));exact BK213.out⟩,⟨by repeat (first|(with_reducible first|exact HB.out|apply zAB|apply zAA|apply zAC|refine zAF ?_ GE210.out|refine zAF ?_ GE213.out)|exact HB.out)⟩⟩
         ·replace c24:=Bool.eq_false_iff.mpr c24
          subst c24
          have H1:(zAW.j1 k1 x5_1 x6_1 t214 true a0_0 l0_1 a0_2 l0_3 ((zAJ l0_3 x6_1).f0) ((zAJ l0_3 x6_1).f1) ((zAJ l0_3 x6_1).f2) ((zAJ l0_3 x6_1).f3) ((zAJ l0_3 x6_1).f4) ((zAJ l0_3 x6_1).f5))=some (r1,r2):=by rw [if_neg (show ¬ (false=true) by decide)] at H;exact H
          clear H
          have H:=H1
          clear H1
          have H':=aK_ H
          clear H
          have hnb29:=NB213_210.out
          have hnc29:=NB210_213.out
          have hcz30_0:w21.cell? ⟨gb213,0,none⟩=some (.int .i64 ((zAJ l0_3 x6_1).f0)):=(zAE BK213.out 0).trans rfl
          have hcz30_1:w21.cell? ⟨gb213,1,none⟩=some (.int .i64 ((zAJ l0_3 x6_1).f1)):=(zAE BK213.out 1).trans rfl
          have hcz30_2:w21.cell? ⟨gb213,2,none⟩=some (.int .i64 ((zAJ l0_3 x6_1).f2)):=(zAE BK213.out 2).trans rfl
          have hcz30_3:w21.cell? ⟨gb213,3,none⟩=some (.int .i64 ((zAJ l0_3 x6_1).f3)):=(zAE BK213.out 3).trans rfl
          have hcz30_4:w21.cell? ⟨gb213,4,none⟩=some (.slice A212_4 ((zAJ l0_3 x6_1).f4).length c212_4):=(zAE BK213.out 4).trans rfl
          have hcz30_5:w21.cell? ⟨gb213,5,none⟩=some (.int .i64 ((zAJ l0_3 x6_1).f5)):=(zAE BK213.out 5).trans rfl
          have hfz30_0:=zAD BK213.out 0
          have hfz30_1:=zAD BK213.out 1
          have hfz30_2:=zAD BK213.out 2
          have hfz30_3:=zAD BK213.out 3
          have hfz30_4:=zAD BK213.out 4
          have hfz30_5:=zAD BK213.out 5
          have hcz31_0:w21.cell? ⟨gb210,0,none⟩=some (.string a0_0):=(zAE BK210.out 0).trans rfl
          have hcz31_1:w21.cell? ⟨gb210,1,none⟩=some (.slice A0_1 l0_1.length c0_1):=(zAE BK210.out 1).trans rfl
          have hcz31_2:w21.cell? ⟨gb210,2,none⟩=some (.int .i64 a0_2):=(zAE BK210.out 2).trans rfl
          have hcz31_3:w21.cell? ⟨gb210,3,none⟩=some (.slice (some ad212) l0_3.length c0_3):=(zAE BK210.out 3).trans rfl
          have hfz31_0:=zAD BK210.out 0
          have hfz31_1:=zAD BK210.out 1
          have hfz31_2:=zAD BK210.out 2
          have hfz31_3:=zAD BK210.out 3
          go_wp2_with (first|(go_at_call 41;(with_reducible refine (zAU.calls k1 ((zAJ l0_3 x6_1).f0) ((zAJ l0_3 x6_1).f1) ((zAJ l0_3 x6_1).f2) ((zAJ l0_3 x6_1).f3) _ _ ((zAJ l0_3 x6_1).f4) ((zAJ l0_3 x6_1).f5) (l0_1.length:Int) false _ ?side1 ?side2 A23.out).mono ?_);(case side1=>repeat (first|exact (Kd.C_below HR212_4.out HB.out)|(with_reducible refine Kd.C_alloc ?_ _)|(with_reducible refine Kd.C_drewN ?_ _)|(with_reducible refine Kd.C_drew ?_)));(case side2=>exact HC212_4.out);rintro e w32 ⟨rfl,hb⟩;have n0_:=aK_ (zAX (g:=gb210) (o:=.cells #[.string a0_0,.slice A0_1 l0_1.length c0_1,.int .i64 a0_2,.slice (some ad212) l0_3.length c0_3] 25 (0,0)) (by (with_reducible repeat (first|refine zAG ?_ _|refine zAI ?_|refine zAH ?_ _));exact BK210.out) hb);have n1_:=aK_ (zAX (g:=gb213) (o:=.cells #[.int .i64 ((zAJ l0_3 x6_1).f0),.int .i64 ((zAJ l0_3 x6_1).f1),.int .i64 ((zAJ l0_3 x6_1).f2),.int .i64 ((zAJ l0_3 x6_1).f3),.slice A212_4 ((zAJ l0_3 x6_1).f4).length c212_4,.int .i64 ((zAJ l0_3 x6_1).f5)] 33 (0,0)) (by (with_reducible repeat (first|refine zAG ?_ _|refine zAI ?_|refine zAH ?_ _));exact BK213.out) hb);have n2_:=aK_ (zAL (by repeat (first|(with_reducible first|exact HB.out|apply zAB|apply zAA|apply zAC|refine zAF ?_ GE210.out|refine zAF ?_ GE213.out)|exact HB.out)) hb);clear BK210;clear BK213;clear HB;have BK210:=n0_;have BK213:=n1_;have HB:=n2_;clear n0_ n1_ n2_;(try clear hb);(try clear hb2);(try clear hk);(try clear hi)))
          go_meet
          case rel=>exact ⟨_,(true),(by first|rfl|(simp;done)|(simp [*];done)),H',⟨by have:=HK1.out;first|omega|exact Nat.le_refl _⟩,⟨by (with_reducible repeat (first|refine zAG ?_ _|refine zAI ?_|refine zAH ?_ _));exact BK210.out⟩,⟨by (with_reducible repeat (first|refine zAG ?_ _|refine zAI ?_|refine zAH ?_ _));exact BK213.out⟩,⟨by repeat (first|(with_reducible first|exact HB.out|apply zAB|apply zAA|apply zAC|refine zAF ?_ GE210.out|refine zAF ?_ GE213.out)|exact HB.out)⟩⟩
       case rest =>
        clear HC16
        try clear c1
        try clear c2
        try clear p2
        try clear q2
        try clear hx2
        try clear c3
        try clear c3b0
        try clear c3b1
        try clear c4
        try clear c4b0
        try clear c4b1
        try clear c13
        try clear c13b0
        try clear c14
        try clear c14b0
        try clear c17
        try clear c19
        try clear c21
        try clear p21
        try clear q21
        try clear hx21
        try clear c22
        try clear c22b0
        try clear c24
        try clear c25
        try clear c29
        try clear hcz10_0
        try clear hcz10_1
        try clear hcz10_2
        try clear hcz10_3
        try clear hcz12_0
        try clear hcz12_1
        try clear hcz12_2
        try clear hcz12_3
        try clear hcz17_0
        try clear hcz17_1
        try clear hcz17_2
        try clear hcz17_3
        try clear hcz20_0
        try clear hcz20_1
        try clear hcz20_2
        try clear hcz20_3
        try clear hcz20_4
        try clear hcz20_5
        try clear hcz26_0
        try clear hcz26_1
        try clear hcz26_2
        try clear hcz26_3
        try clear hcz26_4
        try clear hcz26_5
        try clear hcz27_0
        try clear hcz27_1
        try clear hcz27_2
        try clear hcz27_3
        try clear hcz30_0
        try clear hcz30_1
        try clear hcz30_2
        try clear hcz30_3
        try clear hcz30_4
        try clear hcz30_5
        try clear hcz31_0
        try clear hcz31_1
        try clear hcz31_2
        try clear hcz31_3
        try clear hcz6_0
        try clear hcz6_1
        try clear hcz6_2
        try clear hcz6_3
        try clear hcz8_0
        try clear hcz8_1
        try clear hcz8_2
        try clear hcz8_3
        try clear hfz10_0
        try clear hfz10_1
        try clear hfz10_2
        try clear hfz10_3
        try clear hfz12_0
        try clear hfz12_1
        try clear hfz12_2
        try clear hfz12_3
        try clear hfz17_0
        try clear hfz17_1
        try clear hfz17_2
        try clear hfz17_3
        try clear hfz20_0
        try clear hfz20_1
        try clear hfz20_2
        try clear hfz20_3
        try clear hfz20_4
        try clear hfz20_5
        try clear hfz26_0
        try clear hfz26_1
        try clear hfz26_2
        try clear hfz26_3
        try clear hfz26_4
        try clear hfz26_5
        try clear hfz27_0
        try clear hfz27_1
        try clear hfz27_2
        try clear hfz27_3
        try clear hfz30_0
        try clear hfz30_1
        try clear hfz30_2
        try clear hfz30_3
        try clear hfz30_4
        try clear hfz30_5
        try clear hfz31_0
        try clear hfz31_1
        try clear hfz31_2
        try clear hfz31_3
        try clear hfz6_0
        try clear hfz6_1
        try clear hfz6_2
        try clear hfz6_3
        try clear hfz8_0
        try clear hfz8_1
        try clear hfz8_2
        try clear hfz8_3
        try clear hx212_0
        try clear hx212_1
        try clear hx212_2
        try clear hx212_3
        try clear hx212_4
        try clear hx212_5
        try clear p2
        try clear p212
        try clear q212
        obtain ⟨kq,x46_15,rfl,HA,HJ15,BK210,BK213,HB⟩:=hcut
        cases kq with
        |zero=>exact absurd HA.out (by simp [zAW.j1])
        |succ kj15 =>
         have H:=HA.out
         clear HA
         simp only [zAW.j1] at H
         by_cases c33:x46_15=true
         ·subst c33
          have H1:(some (x6_1,50))=some (r1,r2):=by rw [if_pos rfl] at H;exact H
          clear H
          have H:=H1
          clear H1
          simp only [Option.some.injEq,Prod.mk.injEq] at H
          obtain ⟨rfl,rfl⟩:=H
          go_wp2
          go_ret2
          exact ⟨by first|rfl|(simp [zAQ,zAP] <;> rfl)|(simp [*,zAQ,zAP] <;> rfl),by repeat (first|(with_reducible first|exact HB.out|apply zAB|apply zAA|apply zAC|refine zAF ?_ GE210.out|refine zAF ?_ GE213.out)|exact HB.out)⟩
         ·replace c33:=Bool.eq_false_iff.mpr c33
          subst c33
          have H1:(if ((zAJ l0_3 x6_1).f0)=13 then ((zAR.f kj15 ((zAJ l0_3 x6_1).f4)).bind fun t216=>(if t216=true then (zAW.l0 kj15 (wrap64 ((wrap64 (x5_1 - t214))+1)) (wrap64 (x6_1+1)) a0_0 l0_1 a0_2 l0_3) else (some (x6_1,51)))) else (if ((zAJ l0_3 x6_1).f0)=14 then ((zAR.f kj15 ((zAJ l0_3 x6_1).f4)).bind fun t217=>(if t217=true then (zAW.l0 kj15 (wrap64 ((wrap64 (x5_1 - t214))+1)) (wrap64 (x6_1+1)) a0_0 l0_1 a0_2 l0_3) else (some (x6_1,51)))) else (zAW.l0 kj15 (wrap64 ((wrap64 (x5_1 - t214))+1)) (wrap64 (x6_1+1)) a0_0 l0_1 a0_2 l0_3)))=some (r1,r2):=by rw [if_neg (show ¬ (false=true) by decide)] at H;exact H
          clear H
          have H:=H1
          clear H1
          by_cases c34:((zAJ l0_3 x6_1).f0)=13
          ·rw [if_pos c34] at H
           have c34b0:(((zAJ l0_3 x6_1).f0) == 13)=true:=beq_iff_eq.mpr c34
           have c34b1:(((zAJ l0_3 x6_1).f0) != 13)=false:=bne_eq_false_iff_eq.mpr c34
           clear c34
           replace H:=Option.bind_eq_some_iff.mp H
           obtain ⟨t216,A350,H⟩:=H
           replace H:(if t216=true then (zAW.l0 kj15 (wrap64 ((wrap64 (x5_1 - t214))+1)) (wrap64 (x6_1+1)) a0_0 l0_1 a0_2 l0_3) else (some (x6_1,51)))=some (r1,r2):=H
           have A35:=aK_ A350
           clear A350
           by_cases c36:t216=true
           ·subst c36
            have H1:(zAW.l0 kj15 (wrap64 ((wrap64 (x5_1 - t214))+1)) (wrap64 (x6_1+1)) a0_0 l0_1 a0_2 l0_3)=some (r1,r2):=by rw [if_pos rfl] at H;exact H
            clear H
            have H:=H1
            clear H1
            have H':=aK_ H
            clear H
            have hnb37:=NB213_210.out
            have hnc37:=NB210_213.out
            have hcz38_0:wc.cell? ⟨gb213,0,none⟩=some (.int .i64 ((zAJ l0_3 x6_1).f0)):=(zAE BK213.out 0).trans rfl
            have hcz38_1:wc.cell? ⟨gb213,1,none⟩=some (.int .i64 ((zAJ l0_3 x6_1).f1)):=(zAE BK213.out 1).trans rfl
            have hcz38_2:wc.cell? ⟨gb213,2,none⟩=some (.int .i64 ((zAJ l0_3 x6_1).f2)):=(zAE BK213.out 2).trans rfl
            have hcz38_3:wc.cell? ⟨gb213,3,none⟩=some (.int .i64 ((zAJ l0_3 x6_1).f3)):=(zAE BK213.out 3).trans rfl
            have hcz38_4:wc.cell? ⟨gb213,4,none⟩=some (.slice A212_4 ((zAJ l0_3 x6_1).f4).length c212_4):=(zAE BK213.out 4).trans rfl
            have hcz38_5:wc.cell? ⟨gb213,5,none⟩=some (.int .i64 ((zAJ l0_3 x6_1).f5)):=(zAE BK213.out 5).trans rfl
            have hfz38_0:=zAD BK213.out 0
            have hfz38_1:=zAD BK213.out 1
            have hfz38_2:=zAD BK213.out 2
            have hfz38_3:=zAD BK213.out 3
            have hfz38_4:=zAD BK213.out 4
            have hfz38_5:=zAD BK213.out 5
            go_wp2_with (first|(go_at_call 42;(with_reducible refine (zAR.calls kj15 _ _ ((zAJ l0_3 x6_1).f4) true _ ?side1 ?side2 A35.out).mono ?_);(case side1=>repeat (first|exact (Kd.C_below HR212_4.out HB.out)|(with_reducible refine Kd.C_alloc ?_ _)|(with_reducible refine Kd.C_drewN ?_ _)|(with_reducible refine Kd.C_drew ?_)));(case side2=>exact HC212_4.out);rintro e w' ⟨rfl,⟨nd,rfl⟩⟩))
            go_roundg kj15
            case measure=>have:=HK1.out;have:=HJ15.out;omega
            case rel=>exact ⟨(wrap64 ((wrap64 (x5_1 - t214))+1)),(wrap64 (x6_1+1)),(by first|rfl|(simp;done)|(simp [*];done)),(by first|rfl|(simp;done)|(simp [*];done)),H',⟨by have:=HK1.out;have:=HJ15.out;omega⟩,⟨by (with_reducible repeat (first|refine zAG ?_ _|refine zAI ?_|refine zAH ?_ _));exact BK210.out⟩,⟨by repeat (first|(with_reducible first|exact HB.out|apply zAB|apply zAA|apply zAC|refine zAF ?_ GE210.out|refine zAF ?_ GE213.out)|exact HB.out)⟩⟩
           ·replace c36:=Bool.eq_false_iff.mpr c36
            subst c36
            have H1:(some (x6_1,51))=some (r1,r2):=by rw [if_neg (show ¬ (false=true) by decide)] at H;exact H
            clear H
            have H:=H1
            clear H1
            simp only [Option.some.injEq,Prod.mk.injEq] at H
            obtain ⟨rfl,rfl⟩:=H
            have hnb39:=NB213_210.out
            have hnc39:=NB210_213.out
            have hcz40_0:wc.cell? ⟨gb213,0,none⟩=some (.int .i64 ((zAJ l0_3 x6_1).f0)):=(zAE BK213.out 0).trans rfl
            have hcz40_1:wc.cell? ⟨gb213,1,none⟩=some (.int .i64 ((zAJ l0_3 x6_1).f1)):=(zAE BK213.out 1).trans rfl
            have hcz40_2:wc.cell? ⟨gb213,2,none⟩=some (.int .i64 ((zAJ l0_3 x6_1).f2)):=(zAE BK213.out 2).trans rfl
            have hcz40_3:wc.cell? ⟨gb213,3,none⟩=some (.int .i64 ((zAJ l0_3 x6_1).f3)):=(zAE BK213.out 3).trans rfl
            have hcz40_4:wc.cell? ⟨gb213,4,none⟩=some (.slice A212_4 ((zAJ l0_3 x6_1).f4).length c212_4):=(zAE BK213.out 4).trans rfl
            have hcz40_5:wc.cell? ⟨gb213,5,none⟩=some (.int .i64 ((zAJ l0_3 x6_1).f5)):=(zAE BK213.out 5).trans rfl
            have hfz40_0:=zAD BK213.out 0
            have hfz40_1:=zAD BK213.out 1
            have hfz40_2:=zAD BK213.out 2
            have hfz40_3:=zAD BK213.out 3
            have hfz40_4:=zAD BK213.out 4
            have hfz40_5:=zAD BK213.out 5
            go_wp2_with (first|(go_at_call 42;(with_reducible refine (zAR.calls kj15 _ _ ((zAJ l0_3 x6_1).f4) false _ ?side1 ?side2 A35.out).mono ?_);(case side1=>repeat (first|exact (Kd.C_below HR212_4.out HB.out)|(with_reducible refine Kd.C_alloc ?_ _)|(with_reducible refine Kd.C_drewN ?_ _)|(with_reducible refine Kd.C_drew ?_)));(case side2=>exact HC212_4.out);rintro e w' ⟨rfl,⟨nd,rfl⟩⟩))
            go_ret2
            exact ⟨by first|rfl|(simp [zAQ,zAP] <;> rfl)|(simp [*,zAQ,zAP] <;> rfl),by repeat (first|(with_reducible first|exact HB.out|apply zAB|apply zAA|apply zAC|refine zAF ?_ GE210.out|refine zAF ?_ GE213.out)|exact HB.out)⟩
          ·rw [if_neg c34] at H
           have c34b0:(((zAJ l0_3 x6_1).f0) == 13)=false:=beq_eq_false_iff_ne.mpr c34
           have c34b1:(((zAJ l0_3 x6_1).f0) != 13)=true:=bne_iff_ne.mpr c34
           by_cases c41:((zAJ l0_3 x6_1).f0)=14
           ·rw [if_pos c41] at H
            have c41b0:(((zAJ l0_3 x6_1).f0) == 14)=true:=beq_iff_eq.mpr c41
            have c41b1:(((zAJ l0_3 x6_1).f0) != 14)=false:=bne_eq_false_iff_eq.mpr c41
            clear c41
            replace H:=Option.bind_eq_some_iff.mp H
            obtain ⟨t217,A420,H⟩:=H
            replace H:(if t217=true then (zAW.l0 kj15 (wrap64 ((wrap64 (x5_1 - t214))+1)) (wrap64 (x6_1+1)) a0_0 l0_1 a0_2 l0_3) else (some (x6_1,51)))=some (r1,r2):=H
            have A42:=aK_ A420
            clear A420
            by_cases c43:t217=true
            ·subst c43
             have H1:(zAW.l0 kj15 (wrap64 ((wrap64 (x5_1 - t214))+1)) (wrap64 (x6_1+1)) a0_0 l0_1 a0_2 l0_3)=some (r1,r2):=by rw [if_pos rfl] at H;exact H
             clear H
             have H:=H1
             clear H1
             have H':=aK_ H
             clear H
             have hnb44:=NB213_210.out
             have hnc44:=NB210_213.out
             have hcz45_0:wc.cell? ⟨gb213,0,none⟩=some (.int .i64 ((zAJ l0_3 x6_1).f0)):=(zAE BK213.out 0).trans rfl
             have hcz45_1:wc.cell? ⟨gb213,1,none⟩=some (.int .i64 ((zAJ l0_3 x6_1).f1)):=(zAE BK213.out 1).trans rfl
             have hcz45_2:wc.cell? ⟨gb213,2,none⟩=some (.int .i64 ((zAJ l0_3 x6_1).f2)):=(zAE BK213.out 2).trans rfl
             have hcz45_3:wc.cell? ⟨gb213,3,none⟩=some (.int .i64 ((zAJ l0_3 x6_1).f3)):=(zAE BK213.out 3).trans rfl
             have hcz45_4:wc.cell? ⟨gb213,4,none⟩=some (.slice A212_4 ((zAJ l0_3 x6_1).f4).length c212_4):=(zAE BK213.out 4).trans rfl
             have hcz45_5:wc.cell? ⟨gb213,5,none⟩=some (.int .i64 ((zAJ l0_3 x6_1).f5)):=(zAE BK213.out 5).trans rfl
             have hfz45_0:=zAD BK213.out 0
             have hfz45_1:=zAD BK213.out 1
             have hfz45_2:=zAD BK213.out 2
             have hfz45_3:=zAD BK213.out 3
             have hfz45_4:=zAD BK213.out 4
             have hfz45_5:=zAD BK213.out 5
             go_wp2_with (first|(go_at_call 42;(with_reducible refine (zAR.calls kj15 _ _ ((zAJ l0_3 x6_1).f4) true _ ?side1 ?side2 A42.out).mono ?_);(case side1=>repeat (first|exact (Kd.C_below HR212_4.out HB.out)|(with_reducible refine Kd.C_alloc ?_ _)|(with_reducible refine Kd.C_drewN ?_ _)|(with_reducible refine Kd.C_drew ?_)));(case side2=>exact HC212_4.out);rintro e w' ⟨rfl,⟨nd,rfl⟩⟩))
             go_roundg kj15
             case measure=>have:=HK1.out;have:=HJ15.out;omega
             case rel=>exact ⟨(wrap64 ((wrap64 (x5_1 - t214))+1)),(wrap64 (x6_1+1)),(by first|rfl|(simp;done)|(simp [*];done)),(by first|rfl|(simp;done)|(simp [*];done)),H',⟨by have:=HK1.out;have:=HJ15.out;omega⟩,⟨by (with_reducible repeat (first|refine zAG ?_ _|refine zAI ?_|refine zAH ?_ _));exact BK210.out⟩,⟨by repeat (first|(with_reducible first|exact HB.out|apply zAB|apply zAA|apply zAC|refine zAF ?_ GE210.out|refine zAF ?_ GE213.out)|exact HB.out)⟩⟩
            ·replace c43:=Bool.eq_false_iff.mpr c43
             subst c43
             have H1:(some (x6_1,51))=some (r1,r2):=by rw [if_neg (show ¬ (false=true) by decide)] at H;exact H
             clear H
             have H:=H1
             clear H1
             simp only [Option.some.injEq,Prod.mk.injEq] at H
             obtain ⟨rfl,rfl⟩:=H
             have hnb46:=NB213_210.out
             have hnc46:=NB210_213.out
             have hcz47_0:wc.cell? ⟨gb213,0,none⟩=some (.int .i64 ((zAJ l0_3 x6_1).f0)):=(zAE BK213.out 0).trans rfl
             have hcz47_1:wc.cell? ⟨gb213,1,none⟩=some (.int .i64 ((zAJ l0_3 x6_1).f1)):=(zAE BK213.out 1).trans rfl
             have hcz47_2:wc.cell? ⟨gb213,2,none⟩=some (.int .i64 ((zAJ l0_3 x6_1).f2)):=(zAE BK213.out 2).trans rfl
             have hcz47_3:wc.cell? ⟨gb213,3,none⟩=some (.int .i64 ((zAJ l0_3 x6_1).f3)):=(zAE BK213.out 3).trans rfl
             have hcz47_4:wc.cell? ⟨gb213,4,none⟩=some (.slice A212_4 ((zAJ l0_3 x6_1).f4).length c212_4):=(zAE BK213.out 4).trans rfl
             have hcz47_5:wc.cell? ⟨gb213,5,none⟩=some (.int .i64 ((zAJ l0_3 x6_1).f5)):=(zAE BK213.out 5).trans rfl
             have hfz47_0:=zAD BK213.out 0
             have hfz47_1:=zAD BK213.out 1
             have hfz47_2:=zAD BK213.out 2
             have hfz47_3:=zAD BK213.out 3
             have hfz47_4:=zAD BK213.out 4
             have hfz47_5:=zAD BK213.out 5
             go_wp2_with (first|(go_at_call 42;(with_reducible refine (zAR.calls kj15 _ _ ((zAJ l0_3 x6_1).f4) false _ ?side1 ?side2 A42.out).mono ?_);(case side1=>repeat (first|exact (Kd.C_below HR212_4.out HB.out)|(with_reducible refine Kd.C_alloc ?_ _)|(with_reducible refine Kd.C_drewN ?_ _)|(with_reducible refine Kd.C_drew ?_)));(case side2=>exact HC212_4.out);rintro e w' ⟨rfl,⟨nd,rfl⟩⟩))
             go_ret2
             exact ⟨by first|rfl|(simp [zAQ,zAP] <;> rfl)|(simp [*,zAQ,zAP] <;> rfl),by repeat (first|(with_reducible first|exact HB.out|apply zAB|apply zAA|apply zAC|refine zAF ?_ GE210.out|refine zAF ?_ GE213.out)|exact HB.out)⟩
           ·rw [if_neg c41] at H
            have c41b0:(((zAJ l0_3 x6_1).f0) == 14)=false:=beq_eq_false_iff_ne.mpr c41
            have c41b1:(((zAJ l0_3 x6_1).f0) != 14)=true:=bne_iff_ne.mpr c41
            have H':=aK_ H
            clear H
            have hnb48:=NB213_210.out
            have hnc48:=NB210_213.out
            have hcz49_0:wc.cell? ⟨gb213,0,none⟩=some (.int .i64 ((zAJ l0_3 x6_1).f0)):=(zAE BK213.out 0).trans rfl
            have hcz49_1:wc.cell? ⟨gb213,1,none⟩=some (.int .i64 ((zAJ l0_3 x6_1).f1)):=(zAE BK213.out 1).trans rfl
            have hcz49_2:wc.cell? ⟨gb213,2,none⟩=some (.int .i64 ((zAJ l0_3 x6_1).f2)):=(zAE BK213.out 2).trans rfl
            have hcz49_3:wc.cell? ⟨gb213,3,none⟩=some (.int .i64 ((zAJ l0_3 x6_1).f3)):=(zAE BK213.out 3).trans rfl
            have hcz49_4:wc.cell? ⟨gb213,4,none⟩=some (.slice A212_4 ((zAJ l0_3 x6_1).f4).length c212_4):=(zAE BK213.out 4).trans rfl
            have hcz49_5:wc.cell? ⟨gb213,5,none⟩=some (.int .i64 ((zAJ l0_3 x6_1).f5)):=(zAE BK213.out 5).trans rfl
            have hfz49_0:=zAD BK213.out 0
            have hfz49_1:=zAD BK213.out 1
            have hfz49_2:=zAD BK213.out 2
            have hfz49_3:=zAD BK213.out 3
            have hfz49_4:=zAD BK213.out 4
            have hfz49_5:=zAD BK213.out 5
            go_wp2
            go_roundg kj15
            case measure=>have:=HK1.out;have:=HJ15.out;omega
            case rel=>exact ⟨(wrap64 ((wrap64 (x5_1 - t214))+1)),(wrap64 (x6_1+1)),(by first|rfl|(simp;done)|(simp [*];done)),(by first|rfl|(simp;done)|(simp [*];done)),H',⟨by have:=HK1.out;have:=HJ15.out;omega⟩,⟨by (with_reducible repeat (first|refine zAG ?_ _|refine zAI ?_|refine zAH ?_ _));exact BK210.out⟩,⟨by repeat (first|(with_reducible first|exact HB.out|apply zAB|apply zAA|apply zAC|refine zAF ?_ GE210.out|refine zAF ?_ GE213.out)|exact HB.out)⟩⟩
      ·rw [if_neg c14] at H
       exact absurd H (by simp)
     ·rw [if_neg c13] at H
      have c13b0:decide (x6_1<(l0_3.length:Int))=false:=decide_eq_false c13
      clear c13
      by_cases c50:x5_1=1
      ·rw [if_pos c50] at H
       have c50b0:(x5_1 == 1)=true:=beq_iff_eq.mpr c50
       have c50b1:(x5_1 != 1)=false:=bne_eq_false_iff_eq.mpr c50
       clear c50
       simp only [Option.some.injEq,Prod.mk.injEq] at H
       obtain ⟨rfl,rfl⟩:=H
       have hcz51_0:wr.cell? ⟨gb210,0,none⟩=some (.string a0_0):=(zAE BK210.out 0).trans rfl
       have hcz51_1:wr.cell? ⟨gb210,1,none⟩=some (.slice A0_1 l0_1.length c0_1):=(zAE BK210.out 1).trans rfl
       have hcz51_2:wr.cell? ⟨gb210,2,none⟩=some (.int .i64 a0_2):=(zAE BK210.out 2).trans rfl
       have hcz51_3:wr.cell? ⟨gb210,3,none⟩=some (.slice A0_3 l0_3.length c0_3):=(zAE BK210.out 3).trans rfl
       have hfz51_0:=zAD BK210.out 0
       have hfz51_1:=zAD BK210.out 1
       have hfz51_2:=zAD BK210.out 2
       have hfz51_3:=zAD BK210.out 3
       go_wp2
       go_ret2
       exact ⟨by first|rfl|(simp [zAQ,zAP] <;> rfl)|(simp [*,zAQ,zAP] <;> rfl),by repeat (first|(with_reducible first|exact HB.out|apply zAB|apply zAA|apply zAC|refine zAF ?_ GE210.out)|exact HB.out)⟩
      ·rw [if_neg c50] at H
       have c50b0:(x5_1 == 1)=false:=beq_eq_false_iff_ne.mpr c50
       have c50b1:(x5_1 != 1)=true:=bne_iff_ne.mpr c50
       simp only [Option.some.injEq,Prod.mk.injEq] at H
       obtain ⟨rfl,rfl⟩:=H
       have hcz52_0:wr.cell? ⟨gb210,0,none⟩=some (.string a0_0):=(zAE BK210.out 0).trans rfl
       have hcz52_1:wr.cell? ⟨gb210,1,none⟩=some (.slice A0_1 l0_1.length c0_1):=(zAE BK210.out 1).trans rfl
       have hcz52_2:wr.cell? ⟨gb210,2,none⟩=some (.int .i64 a0_2):=(zAE BK210.out 2).trans rfl
       have hcz52_3:wr.cell? ⟨gb210,3,none⟩=some (.slice A0_3 l0_3.length c0_3):=(zAE BK210.out 3).trans rfl
       have hfz52_0:=zAD BK210.out 0
       have hfz52_1:=zAD BK210.out 1
       have hfz52_2:=zAD BK210.out 2
       have hfz52_3:=zAD BK210.out 3
       go_wp2
       go_ret2
       exact ⟨by first|rfl|(simp [zAQ,zAP] <;> rfl)|(simp [*,zAQ,zAP] <;> rfl),by repeat (first|(with_reducible first|exact HB.out|apply zAB|apply zAA|apply zAC|refine zAF ?_ GE210.out)|exact HB.out)⟩
 ·rw [if_neg c3] at H
  have c3b0:(t211 == 0)=false:=beq_eq_false_iff_ne.mpr c3
  have c3b1:(t211 != 0)=true:=bne_iff_ne.mpr c3
  simp only [Option.some.injEq,Prod.mk.injEq] at H
  obtain ⟨rfl,rfl⟩:=H
  go_enter Tryd.func17,Tryd.ntmps17
  go_wp2_with (first|((with_reducible refine zAf (N:=1) rfl ?_);(try (refine gate_guard (by rfl) ?_;dsimp only));refine zAc ?hg (N:=1) ?hd (cs:=#[.string a0_0,.slice A0_1 l0_1.length c0_1,.int .i64 a0_2,.slice A0_3 l0_3.length c0_3]) (t:=25) ?hr ?_;(case hd=>rfl);(case hg=>rfl);(case hr=>first|(go_simp;done)|(go_simp;rfl));intro gb210 hg w53 hbox hb;have n0_:=aK_ (zAL (by repeat (first|(with_reducible first|exact HB.out|apply zAB|apply zAA|apply zAC)|exact HB.out)) hb);have n1_:=aK_ (hbox);have n2_:=aK_ ((by rw [hg];exact (zAK (by repeat (first|(with_reducible first|exact HB.out|apply zAB|apply zAA|apply zAC)|exact HB.out))):w.heap.size≤gb210));have n3_:=aK_ ((by rw [hg];exact (zAK (by repeat (first|(with_reducible first|exact HB.out|apply zAB|apply zAA|apply zAC)|exact HB.out))):w.heap.size≤gb210));clear HB;have HB:=n0_;have BK210:=n1_;have GW210:=n2_;have GE210:=n3_;clear n0_ n1_ n2_ n3_;clear hb hbox hg;have hcz54_0:w53.cell? ⟨gb210,0,none⟩=some (.string a0_0):=(zAE BK210.out 0).trans rfl;have hcz54_1:w53.cell? ⟨gb210,1,none⟩=some (.slice A0_1 l0_1.length c0_1):=(zAE BK210.out 1).trans rfl;have hcz54_2:w53.cell? ⟨gb210,2,none⟩=some (.int .i64 a0_2):=(zAE BK210.out 2).trans rfl;have hcz54_3:w53.cell? ⟨gb210,3,none⟩=some (.slice A0_3 l0_3.length c0_3):=(zAE BK210.out 3).trans rfl;have hfz54_0:=zAD BK210.out 0;have hfz54_1:=zAD BK210.out 1;have hfz54_2:=zAD BK210.out 2;have hfz54_3:=zAD BK210.out 3)|((with_reducible refine zAb (f:=40) rfl ?_);refine goesL_ (some 10) rfl rfl Tryd.func40 (by kernel_rfl) rfl #[.agg #[.string a0_0,.slice A0_1 l0_1.length c0_1,.int .i64 a0_2,.slice A0_3 l0_3.length c0_3]] rfl (by (try simp only [List.map_toArray,List.map_cons,List.map_nil]);first|done|rfl|(simp only [List.length_drop,List.length_take];rfl)) ?_;(with_reducible refine (zAT.calls k a0_0 _ _ l0_1 a0_2 _ _ l0_3 t211 _ ?side1 ?side2 ?side3 ?side4 A2.out).mono ?_);(case side1=>repeat (first|exact (Kd.C_below HR0_1.out HB.out)|(with_reducible refine Kd.C_alloc ?_ _)|(with_reducible refine Kd.C_drewN ?_ _)|(with_reducible refine Kd.C_drew ?_)));(case side2=>exact HC0_1.out);(case side3=>repeat (first|exact (Kd.C_below HR0_3.out HB.out)|(with_reducible refine Kd.C_alloc ?_ _)|(with_reducible refine Kd.C_drewN ?_ _)|(with_reducible refine Kd.C_drew ?_)));(case side4=>exact HC0_3.out);rintro e w55 ⟨rfl,hb⟩;refine ⟨_,rfl,?_⟩;have n0_:=aK_ (zAX (g:=gb210) (o:=.cells #[.string a0_0,.slice A0_1 l0_1.length c0_1,.int .i64 a0_2,.slice A0_3 l0_3.length c0_3] 25 (0,0)) (by (with_reducible repeat (first|refine zAG ?_ _|refine zAI ?_|refine zAH ?_ _));exact BK210.out) hb);have n1_:=aK_ (zAL (by repeat (first|(with_reducible first|exact HB.out|apply zAB|apply zAA|apply zAC|refine zAF ?_ GE210.out)|exact HB.out)) hb);clear BK210;clear HB;have BK210:=n0_;have HB:=n1_;clear n0_ n1_;(try clear hb);(try clear hb2);(try clear hk);(try clear hi)))
  go_ret2
  exact ⟨by first|rfl|(simp [zAQ,zAP] <;> rfl)|(simp [*,zAQ,zAP] <;> rfl),by repeat (first|(with_reducible first|exact HB.out|apply zAB|apply zAA|apply zAC|refine zAF ?_ GE210.out)|exact HB.out)⟩
end Go.Proofs.YthbnigjckjkmnaaDoor.S
