/- What the proof needs, part 6 of 18. For every input the law TreeFacts returns true, and each argument reads behind the call as it read before; the listed variable is tied to the program's text. -/
import Derived.Test.YthbnigjckjkmnaaDoorBTreeFacts5
set_option linter.unusedVariables false
set_option linter.unusedSimpArgs false
namespace Go.Proofs.YthbnigjckjkmnaaDoor.S
open Go.RowKit Go.Proofs.YthbnigjckjkmnaaDoorW.PrintWords Go.Proofs.YthbnigjckjkmnaaDoorW.PrintLast Go.Proofs.YthbnigjckjkmnaaDoorW.PrintMore
attribute [local go_sem] max2_int min2_int max_two min_two max_three min_three max_four min_four
mutual
def zAN.l0:Nat→Int→Int→ByteArray→List (S47)→Int→List (S33)→Option (Int × Int)
 |0,_,_,_,_,_,_=>none
 |k+1,x5,x6,x211000,x211001,x211002,x211003=>if x6<(x211003.length:Int) then (if 0≤x6 then ((zAL.f k ((zAG x211003 x6).f0) ((zAG x211003 x6).f1) ((zAG x211003 x6).f2) ((zAG x211003 x6).f3) ((zAG x211003 x6).f4) ((zAG x211003 x6).f5)).bind fun t214=>(if t214<0 then (zAN.j1 k x5 x6 t214 true x211000 x211001 x211002 x211003 ((zAG x211003 x6).f0) ((zAG x211003 x6).f1) ((zAG x211003 x6).f2) ((zAG x211003 x6).f3) ((zAG x211003 x6).f4) ((zAG x211003 x6).f5)) else ((zAW.f k ((zAG x211003 x6).f0) ((zAG x211003 x6).f1) ((zAG x211003 x6).f2) ((zAG x211003 x6).f3) ((zAG x211003 x6).f4) ((zAG x211003 x6).f5) (x211001.length:Int)).bind fun t215=>(if t215=true then (zAN.j1 k x5 x6 t214 (decide (x5<t214)) x211000 x211001 x211002 x211003 ((zAG x211003 x6).f0) ((zAG x211003 x6).f1) ((zAG x211003 x6).f2) ((zAG x211003 x6).f3) ((zAG x211003 x6).f4) ((zAG x211003 x6).f5)) else (zAN.j1 k x5 x6 t214 true x211000 x211001 x211002 x211003 ((zAG x211003 x6).f0) ((zAG x211003 x6).f1) ((zAG x211003 x6).f2) ((zAG x211003 x6).f3) ((zAG x211003 x6).f4) ((zAG x211003 x6).f5)))))) else (none)) else (if x5=1 then (some (0,0)) else (some ((x211003.length:Int),50)))
def zAN.j1:Nat→Int→Int→Int→Bool→ByteArray→List (S47)→Int→List (S33)→Int→Int→Int→Int→List (S45)→Int→Option (Int × Int)
 |0,_,_,_,_,_,_,_,_,_,_,_,_,_,_=>none
 |k+1,x5,x6,x8,x46,x211000,x211001,x211002,x211003,x214000,x214001,x214002,x214003,x214004,x214005=>if x46=true then (some (x6,50)) else (if x214000=13 then ((zAT.f k x214004).bind fun t216=>(if t216=true then (zAN.l0 k (wrap64 ((wrap64 (x5 - x8))+1)) (wrap64 (x6+1)) x211000 x211001 x211002 x211003) else (some (x6,51)))) else (if x214000=14 then ((zAT.f k x214004).bind fun t217=>(if t217=true then (zAN.l0 k (wrap64 ((wrap64 (x5 - x8))+1)) (wrap64 (x6+1)) x211000 x211001 x211002 x211003) else (some (x6,51)))) else (zAN.l0 k (wrap64 ((wrap64 (x5 - x8))+1)) (wrap64 (x6+1)) x211000 x211001 x211002 x211003)))
end
def zAN.f (k:Nat) (a0_0:ByteArray) (l0_1:List (S47)) (a0_2:Int) (l0_3:List (S33)):Option (Int × Int):=(zAV.f k a0_0 l0_1 a0_2 l0_3).bind fun t211=>(if t211=0 then (if (l0_3.length:Int) > 1024 then (some (1024,2)) else (zAN.l0 k 0 0 a0_0 l0_1 a0_2 l0_3)) else (some ((-1),t211)))
theorem zAN.mono_l:∀ k,(∀ y0 y1 y2 y3 y4 y5,LeO (zAN.l0 k y0 y1 y2 y3 y4 y5) (zAN.l0 (k+1) y0 y1 y2 y3 y4 y5))∧(∀ y0 y1 y2 y3 y4 y5 y6 y7 y8 y9 y10 y11 y12 y13,LeO (zAN.j1 k y0 y1 y2 y3 y4 y5 y6 y7 y8 y9 y10 y11 y12 y13) (zAN.j1 (k+1) y0 y1 y2 y3 y4 y5 y6 y7 y8 y9 y10 y11 y12 y13))
 |0=>⟨fun _ _ _ _ _ _ r h=>by simp [zAN.l0] at h,fun _ _ _ _ _ _ _ _ _ _ _ _ _ _ r h=>by simp [zAN.j1] at h⟩
 |k+1=>by
  obtain ⟨ih0,ih1⟩:=zAN.mono_l k
  refine ⟨?_,?_⟩
  ·intro y0 y1 y2 y3 y4 y5
   unfold zAN.l0
   repeat' first
   |(with_reducible exact ih0 _ _ _ _ _ _)
   |(with_reducible exact ih1 _ _ _ _ _ _ _ _ _ _ _ _ _ _)
   |(with_reducible exact zAL.mono _ _ _ _ _ _ _)
   |(with_reducible exact zAW.mono _ _ _ _ _ _ _ _)
   |(with_reducible exact zAV.mono _ _ _ _ _)
   |(with_reducible exact zAT.mono _ _)
   |(with_reducible exact LeO.refl _)
   |(with_reducible exact LeO.none _)
   |(with_reducible refine LeO.ite ?_ ?_)
   |(with_reducible refine LeO.bind ?_ (fun _=>?_))
   |exact ih0 _ _ _ _ _ _
   |exact ih1 _ _ _ _ _ _ _ _ _ _ _ _ _ _
   |exact zAL.mono _ _ _ _ _ _ _
   |exact zAW.mono _ _ _ _ _ _ _ _
   |exact zAV.mono _ _ _ _ _
   |exact zAT.mono _ _
   |exact LeO.none _
   |refine LeO.ite ?_ ?_
   |refine LeO.bind ?_ (fun _=>?_)
  ·intro y0 y1 y2 y3 y4 y5 y6 y7 y8 y9 y10 y11 y12 y13
   unfold zAN.j1
   repeat' first
   |(with_reducible exact ih0 _ _ _ _ _ _)
   |(with_reducible exact ih1 _ _ _ _ _ _ _ _ _ _ _ _ _ _)
   |(with_reducible exact zAL.mono _ _ _ _ _ _ _)
   |(with_reducible exact zAW.mono _ _ _ _ _ _ _ _)
   |(with_reducible exact zAV.mono _ _ _ _ _)
   |(with_reducible exact zAT.mono _ _)
   |(with_reducible exact LeO.refl _)
   |(with_reducible exact LeO.none _)
   |(with_reducible refine LeO.ite ?_ ?_)
   |(with_reducible refine LeO.bind ?_ (fun _=>?_))
   |exact ih0 _ _ _ _ _ _
   |exact ih1 _ _ _ _ _ _ _ _ _ _ _ _ _ _
   |exact zAL.mono _ _ _ _ _ _ _
   |exact zAW.mono _ _ _ _ _ _ _ _
   |exact zAV.mono _ _ _ _ _
   |exact zAT.mono _ _
   |exact LeO.none _
   |refine LeO.ite ?_ ?_
   |refine LeO.bind ?_ (fun _=>?_)
theorem zAN.mono:∀ a0 a1 a2 a3 k,LeO (zAN.f k a0 a1 a2 a3) (zAN.f (k+1) a0 a1 a2 a3):=by
 intro a0 a1 a2 a3 k
 obtain ⟨ih0,ih1⟩:=zAN.mono_l k
 unfold zAN.f
 repeat' first
   |(with_reducible exact ih0 _ _ _ _ _ _)
   |(with_reducible exact ih1 _ _ _ _ _ _ _ _ _ _ _ _ _ _)
   |(with_reducible exact zAL.mono _ _ _ _ _ _ _)
   |(with_reducible exact zAW.mono _ _ _ _ _ _ _ _)
   |(with_reducible exact zAV.mono _ _ _ _ _)
   |(with_reducible exact zAT.mono _ _)
   |(with_reducible exact LeO.refl _)
   |(with_reducible exact LeO.none _)
   |(with_reducible refine LeO.ite ?_ ?_)
   |(with_reducible refine LeO.bind ?_ (fun _=>?_))
   |exact ih0 _ _ _ _ _ _
   |exact ih1 _ _ _ _ _ _ _ _ _ _ _ _ _ _
   |exact zAL.mono _ _ _ _ _ _ _
   |exact zAW.mono _ _ _ _ _ _ _ _
   |exact zAV.mono _ _ _ _ _
   |exact zAT.mono _ _
   |exact LeO.none _
   |refine LeO.ite ?_ ?_
   |refine LeO.bind ?_ (fun _=>?_)
set_option maxHeartbeats 8000000 in
set_option maxRecDepth 100000 in
theorem zAN.calls (k:Nat) (a0_0:ByteArray) (A0_1:Option Addr) (c0_1:Nat) (l0_1:List (S47)) (a0_2:Int) (A0_3:Option Addr) (c0_3:Nat) (l0_3:List (S33)) (r1:Int) (r2:Int) (w:World) (hr0_1:Kd.C k47 w A0_1 l0_1.length l0_1) (hc0_1:l0_1.length≤c0_1) (hr0_3:Kd.C k33 w A0_3 l0_3.length l0_3) (hc0_3:l0_3.length≤c0_3) (h:zAN.f k a0_0 l0_1 a0_2 l0_3=some (r1,r2)) :
  Calls Tryd.prog 17 #[.agg #[.string a0_0,.slice A0_1 l0_1.length c0_1,.int .i64 a0_2,.slice A0_3 l0_3.length c0_3]] w fun e w'=>e = .returned (.tuple #[.int .i64 r1,.int .i64 r2])∧Below w.heap.size w w':=by
 have hu25:=Tryd.underlying25
 have hu33:=Tryd.underlying33
 have HR0_1:=aK_ hr0_1
 have HC0_1:=aK_ hc0_1
 clear hr0_1 hc0_1
 have HR0_3:=aK_ hr0_3
 have HC0_3:=aK_ hc0_3
 clear hr0_3 hc0_3
 have HB:=aK_ (Below.refl w.heap.size w)
 have H:((zAV.f k a0_0 l0_1 a0_2 l0_3).bind fun t211=>(if t211=0 then (if (l0_3.length:Int) > 1024 then (some (1024,2)) else (zAN.l0 k 0 0 a0_0 l0_1 a0_2 l0_3)) else (some ((-1),t211))))=some (r1,r2):=h
 clear h
 replace H:=Option.bind_eq_some_iff.mp H
 obtain ⟨t211,A20,H⟩:=H
 replace H:(if t211=0 then (if (l0_3.length:Int) > 1024 then (some (1024,2)) else (zAN.l0 k 0 0 a0_0 l0_1 a0_2 l0_3)) else (some ((-1),t211)))=some (r1,r2):=H
 have A2:=aK_ A20
 clear A20
 by_cases c3:t211=0
 ·rw [if_pos c3] at H
  have c3b0:(t211 == 0)=true:=beq_iff_eq.mpr c3
  have c3b1:(t211 != 0)=false:=bne_eq_false_iff_eq.mpr c3
  clear c3
  by_cases c4:(l0_3.length:Int) > 1024
  ·rw [if_pos c4] at H
   have c4b0:decide (1024<(l0_3.length:Int))=true:=decide_eq_true c4
   have c4b1:decide (1024<l0_3.length)=true:=decide_eq_true (by omega)
   clear c4
   simp only [Option.some.injEq,Prod.mk.injEq] at H
   obtain ⟨rfl,rfl⟩:=H
   go_enter Tryd.func17,Tryd.ntmps17
   go_wp2_with (first|((with_reducible refine zAk (N:=1) rfl ?_);(try (refine gate_guard (by rfl) ?_;dsimp only));refine zAh ?hg (N:=1) ?hd (cs:=#[.string a0_0,.slice A0_1 l0_1.length c0_1,.int .i64 a0_2,.slice A0_3 l0_3.length c0_3]) (t:=25) ?hr ?_;(case hd=>rfl);(case hg=>rfl);(case hr=>first|(go_simp;done)|(go_simp;rfl));intro gb210 hg w5 hbox hb;have n0_:=aK_ (zAM (by repeat (first|(with_reducible first|exact HB.out|apply zAB|apply zAA|apply zAD)|exact HB.out)) hb);have n1_:=aK_ (hbox);have n2_:=aK_ ((by rw [hg];exact (zAK (by repeat (first|(with_reducible first|exact HB.out|apply zAB|apply zAA|apply zAD)|exact HB.out))):w.heap.size≤gb210));have n3_:=aK_ ((by rw [hg];exact (zAK (by repeat (first|(with_reducible first|exact HB.out|apply zAB|apply zAA|apply zAD)|exact HB.out))):w.heap.size≤gb210));clear HB;have HB:=n0_;have BK210:=n1_;have GW210:=n2_;have GE210:=n3_;clear n0_ n1_ n2_ n3_;clear hb hbox hg;have hcz6_0:w5.cell? ⟨gb210,0,none⟩=some (.string a0_0):=(zAE BK210.out 0).trans rfl;have hcz6_1:w5.cell? ⟨gb210,1,none⟩=some (.slice A0_1 l0_1.length c0_1):=(zAE BK210.out 1).trans rfl;have hcz6_2:w5.cell? ⟨gb210,2,none⟩=some (.int .i64 a0_2):=(zAE BK210.out 2).trans rfl;have hcz6_3:w5.cell? ⟨gb210,3,none⟩=some (.slice A0_3 l0_3.length c0_3):=(zAE BK210.out 3).trans rfl;have hfz6_0:=zAC BK210.out 0;have hfz6_1:=zAC BK210.out 1;have hfz6_2:=zAC BK210.out 2;have hfz6_3:=zAC BK210.out 3)|((with_reducible refine zAf (f:=40) rfl ?_);refine goesL_ (some 10) rfl rfl Tryd.func40 (by kernel_rfl) rfl #[.agg #[.string a0_0,.slice A0_1 l0_1.length c0_1,.int .i64 a0_2,.slice A0_3 l0_3.length c0_3]] rfl (by (try simp only [List.map_toArray,List.map_cons,List.map_nil]);first|done|rfl|(simp only [List.length_drop,List.length_take];rfl)) ?_;(with_reducible refine (zAV.calls k a0_0 _ _ l0_1 a0_2 _ _ l0_3 t211 _ ?side1 ?side2 ?side3 ?side4 A2.out).mono ?_);(case side1=>repeat (first|exact (Kd.C_below HR0_1.out HB.out)|(with_reducible refine Kd.C_alloc ?_ _)|(with_reducible refine Kd.C_drewN ?_ _)|(with_reducible refine Kd.C_drew ?_)));(case side2=>exact HC0_1.out);(case side3=>repeat (first|exact (Kd.C_below HR0_3.out HB.out)|(with_reducible refine Kd.C_alloc ?_ _)|(with_reducible refine Kd.C_drewN ?_ _)|(with_reducible refine Kd.C_drew ?_)));(case side4=>exact HC0_3.out);rintro e w7 ⟨rfl,hb⟩;refine ⟨_,rfl,?_⟩;have n0_:=aK_ (zAb (g:=gb210) (o:=.cells #[.string a0_0,.slice A0_1 l0_1.length c0_1,.int .i64 a0_2,.slice A0_3 l0_3.length c0_3] 25 (0,0)) (by (with_reducible repeat (first|refine zAH ?_ _|refine zAJ ?_|refine zAI ?_ _));exact BK210.out) hb);have n1_:=aK_ (zAM (by repeat (first|(with_reducible first|exact HB.out|apply zAB|apply zAA|apply zAD|refine zAF ?_ GE210.out)|exact HB.out)) hb);clear BK210;clear HB;have BK210:=n0_;have HB:=n1_;clear n0_ n1_;(try clear hb);(try clear hb2);(try clear hk);(try clear hi);have hcz8_0:w7.cell? ⟨gb210,0,none⟩=some (.string a0_0):=(zAE BK210.out 0).trans rfl;have hcz8_1:w7.cell? ⟨gb210,1,none⟩=some (.slice A0_1 l0_1.length c0_1):=(zAE BK210.out 1).trans rfl;have hcz8_2:w7.cell? ⟨gb210,2,none⟩=some (.int .i64 a0_2):=(zAE BK210.out 2).trans rfl;have hcz8_3:w7.cell? ⟨gb210,3,none⟩=some (.slice A0_3 l0_3.length c0_3):=(zAE BK210.out 3).trans rfl;have hfz8_0:=zAC BK210.out 0;have hfz8_1:=zAC BK210.out 1;have hfz8_2:=zAC BK210.out 2;have hfz8_3:=zAC BK210.out 3))
   go_ret2
   exact ⟨by first|rfl|(simp [zAQ,zAP] <;> rfl)|(simp [*,zAQ,zAP] <;> rfl),by repeat (first|(with_reducible first|exact HB.out|apply zAB|apply zAA|apply zAD|refine zAF ?_ GE210.out)|exact HB.out)⟩
  ·rw [if_neg c4] at H
   have c4b0:decide (1024<(l0_3.length:Int))=false:=decide_eq_false c4
   have c4b1:decide (1024<l0_3.length)=false:=decide_eq_false (by omega)
   clear c4
   have H':=aK_ H
   clear H
   go_enter Tryd.func17,Tryd.ntmps17
   go_wp2_with (first|((with_reducible refine zAk (N:=1) rfl ?_);(try (refine gate_guard (by rfl) ?_;dsimp only));refine zAh ?hg (N:=1) ?hd (cs:=#[.string a0_0,.slice A0_1 l0_1.length c0_1,.int .i64 a0_2,.slice A0_3 l0_3.length c0_3]) (t:=25) ?hr ?_;(case hd=>rfl);(case hg=>rfl);(case hr=>first|(go_simp;done)|(go_simp;rfl));intro gb210 hg w9 hbox hb;have n0_:=aK_ (zAM (by repeat (first|(with_reducible first|exact HB.out|apply zAB|apply zAA|apply zAD)|exact HB.out)) hb);have n1_:=aK_ (hbox);have n2_:=aK_ ((by rw [hg];exact (zAK (by repeat (first|(with_reducible first|exact HB.out|apply zAB|apply zAA|apply zAD)|exact HB.out))):w.heap.size≤gb210));have n3_:=aK_ ((by rw [hg];exact (zAK (by repeat (first|(with_reducible first|exact HB.out|apply zAB|apply zAA|apply zAD)|exact HB.out))):w.heap.size≤gb210));clear HB;have HB:=n0_;have BK210:=n1_;have GW210:=n2_;have GE210:=n3_;clear n0_ n1_ n2_ n3_;clear hb hbox hg;have hcz10_0:w9.cell? ⟨gb210,0,none⟩=some (.string a0_0):=(zAE BK210.out 0).trans rfl;have hcz10_1:w9.cell? ⟨gb210,1,none⟩=some (.slice A0_1 l0_1.length c0_1):=(zAE BK210.out 1).trans rfl;have hcz10_2:w9.cell? ⟨gb210,2,none⟩=some (.int .i64 a0_2):=(zAE BK210.out 2).trans rfl;have hcz10_3:w9.cell? ⟨gb210,3,none⟩=some (.slice A0_3 l0_3.length c0_3):=(zAE BK210.out 3).trans rfl;have hfz10_0:=zAC BK210.out 0;have hfz10_1:=zAC BK210.out 1;have hfz10_2:=zAC BK210.out 2;have hfz10_3:=zAC BK210.out 3)|((with_reducible refine zAf (f:=40) rfl ?_);refine goesL_ (some 10) rfl rfl Tryd.func40 (by kernel_rfl) rfl #[.agg #[.string a0_0,.slice A0_1 l0_1.length c0_1,.int .i64 a0_2,.slice A0_3 l0_3.length c0_3]] rfl (by (try simp only [List.map_toArray,List.map_cons,List.map_nil]);first|done|rfl|(simp only [List.length_drop,List.length_take];rfl)) ?_;(with_reducible refine (zAV.calls k a0_0 _ _ l0_1 a0_2 _ _ l0_3 t211 _ ?side1 ?side2 ?side3 ?side4 A2.out).mono ?_);(case side1=>repeat (first|exact (Kd.C_below HR0_1.out HB.out)|(with_reducible refine Kd.C_alloc ?_ _)|(with_reducible refine Kd.C_drewN ?_ _)|(with_reducible refine Kd.C_drew ?_)));(case side2=>exact HC0_1.out);(case side3=>repeat (first|exact (Kd.C_below HR0_3.out HB.out)|(with_reducible refine Kd.C_alloc ?_ _)|(with_reducible refine Kd.C_drewN ?_ _)|(with_reducible refine Kd.C_drew ?_)));(case side4=>exact HC0_3.out);rintro e w11 ⟨rfl,hb⟩;refine ⟨_,rfl,?_⟩;have n0_:=aK_ (zAb (g:=gb210) (o:=.cells #[.string a0_0,.slice A0_1 l0_1.length c0_1,.int .i64 a0_2,.slice A0_3 l0_3.length c0_3] 25 (0,0)) (by (with_reducible repeat (first|refine zAH ?_ _|refine zAJ ?_|refine zAI ?_ _));exact BK210.out) hb);have n1_:=aK_ (zAM (by repeat (first|(with_reducible first|exact HB.out|apply zAB|apply zAA|apply zAD|refine zAF ?_ GE210.out)|exact HB.out)) hb);clear BK210;clear HB;have BK210:=n0_;have HB:=n1_;clear n0_ n1_;(try clear hb);(try clear hb2);(try clear hk);(try clear hi);have hcz12_0:w11.cell? ⟨gb210,0,none⟩=some (.string a0_0):=(zAE BK210.out 0).trans rfl;have hcz12_1:w11.cell? ⟨gb210,1,none⟩=some (.slice A0_1 l0_1.length c0_1):=(zAE BK210.out 1).trans rfl;have hcz12_2:w11.cell? ⟨gb210,2,none⟩=some (.int .i64 a0_2):=(zAE BK210.out 2).trans rfl;have hcz12_3:w11.cell? ⟨gb210,3,none⟩=some (.slice A0_3 l0_3.length c0_3):=(zAE BK210.out 3).trans rfl;have hfz12_0:=zAC BK210.out 0;have hfz12_1:=zAC BK210.out 1;have hfz12_2:=zAC BK210.out 2;have hfz12_3:=zAC BK210.out 3))
   (try simp only [Act.put,List.setIfInBounds_toArray,List.set_cons_zero,List.set_cons_succ])
   go_loopg [5,6] k (fun kq v5 v6 w'=>∃ (x5_1:Int) (x6_1:Int),v5 = .int .i64 x5_1∧v6 = .int .i64 x6_1∧zAg (zAN.l0 kq x5_1 x6_1 a0_0 l0_1 a0_2 l0_3=some (r1,r2))∧zAg (kq≤k)∧zAg (w'.heap[gb210]?=some (.cells #[.string a0_0,(.slice A0_1 l0_1.length c0_1),.int .i64 a0_2,(.slice A0_3 l0_3.length c0_3)] 25 (0,0)))∧zAg (Below w.heap.size w w'))
   case atStart=>exact ⟨(0),(0),(by first|rfl|(simp;done)|(simp [*];done)),(by first|rfl|(simp;done)|(simp [*];done)),H',⟨Nat.le_refl _⟩,⟨by (with_reducible repeat (first|refine zAH ?_ _|refine zAJ ?_|refine zAI ?_ _));exact BK210.out⟩,⟨by repeat (first|(with_reducible first|exact HB.out|apply zAB|apply zAA|apply zAD|refine zAF ?_ GE210.out)|exact HB.out)⟩⟩
   case round =>
    clear H'
    try clear c1
    try clear p2
    try clear c3
    try clear c3b0
    try clear c3b1
    try clear c4
    try clear c4b0
    try clear c4b1
    try clear hcz10_0
    try clear hcz10_1
    try clear hcz10_2
    try clear hcz10_3
    try clear hcz12_0
    try clear hcz12_1
    try clear hcz12_2
    try clear hcz12_3
    try clear hcz6_0
    try clear hcz6_1
    try clear hcz6_2
    try clear hcz6_3
    try clear hcz8_0
    try clear hcz8_1
    try clear hcz8_2
    try clear hcz8_3
    try clear hfz10_0
    try clear hfz10_1
    try clear hfz10_2
    try clear hfz10_3
    try clear hfz12_0
    try clear hfz12_1
    try clear hfz12_2
    try clear hfz12_3
    try clear hfz6_0
    try clear hfz6_1
    try clear hfz6_2
    try clear hfz6_3
    try clear hfz8_0
    try clear hfz8_1
    try clear hfz8_2
    try clear hfz8_3
    obtain ⟨x5_1,x6_1,rfl,rfl,HA,HK1,BK210,HB⟩:=hrel
    cases gk with
    |zero=>exact absurd HA.out (by simp [zAN.l0])
    |succ k1 =>
     have H:=HA.out
     clear HA
     simp only [zAN.l0] at H
     by_cases c13:x6_1<(l0_3.length:Int)
     ·rw [if_pos c13] at H
      have c13b0:decide (x6_1<(l0_3.length:Int))=true:=decide_eq_true c13
      clear c13
      by_cases c14:0≤x6_1
      ·rw [if_pos c14] at H
       have c14b0:decide (0≤x6_1)=true:=decide_eq_true c14
       clear c14
       replace H:=Option.bind_eq_some_iff.mp H
       obtain ⟨t214,A150,H⟩:=H
       replace H:(if t214<0 then (zAN.j1 k1 x5_1 x6_1 t214 true a0_0 l0_1 a0_2 l0_3 ((zAG l0_3 x6_1).f0) ((zAG l0_3 x6_1).f1) ((zAG l0_3 x6_1).f2) ((zAG l0_3 x6_1).f3) ((zAG l0_3 x6_1).f4) ((zAG l0_3 x6_1).f5)) else ((zAW.f k1 ((zAG l0_3 x6_1).f0) ((zAG l0_3 x6_1).f1) ((zAG l0_3 x6_1).f2) ((zAG l0_3 x6_1).f3) ((zAG l0_3 x6_1).f4) ((zAG l0_3 x6_1).f5) (l0_1.length:Int)).bind fun t215=>(if t215=true then (zAN.j1 k1 x5_1 x6_1 t214 (decide (x5_1<t214)) a0_0 l0_1 a0_2 l0_3 ((zAG l0_3 x6_1).f0) ((zAG l0_3 x6_1).f1) ((zAG l0_3 x6_1).f2) ((zAG l0_3 x6_1).f3) ((zAG l0_3 x6_1).f4) ((zAG l0_3 x6_1).f5)) else (zAN.j1 k1 x5_1 x6_1 t214 true a0_0 l0_1 a0_2 l0_3 ((zAG l0_3 x6_1).f0) ((zAG l0_3 x6_1).f1) ((zAG l0_3 x6_1).f2) ((zAG l0_3 x6_1).f3) ((zAG l0_3 x6_1).f4) ((zAG l0_3 x6_1).f5)))))=some (r1,r2):=H
       have A15:=aK_ A150
       clear A150
       have HC16:=aK_ H
       clear H
       have hcz17_0:wr.cell? ⟨gb210,0,none⟩=some (.string a0_0):=(zAE BK210.out 0).trans rfl
       have hcz17_1:wr.cell? ⟨gb210,1,none⟩=some (.slice A0_1 l0_1.length c0_1):=(zAE BK210.out 1).trans rfl
       have hcz17_2:wr.cell? ⟨gb210,2,none⟩=some (.int .i64 a0_2):=(zAE BK210.out 2).trans rfl
       have hcz17_3:wr.cell? ⟨gb210,3,none⟩=some (.slice A0_3 l0_3.length c0_3):=(zAE BK210.out 3).trans rfl
       have hfz17_0:=zAC BK210.out 0
       have hfz17_1:=zAC BK210.out 1
       have hfz17_2:=zAC BK210.out 2
       have hfz17_3:=zAC BK210.out 3
       have p212:0≤(x6_1:Int):=of_decide_eq_true (by first|(with_reducible assumption)|assumption)
       have q212:x6_1<(l0_3.length:Int):=of_decide_eq_true (by first|(with_reducible assumption)|assumption)
       obtain ⟨ad212,A212_4,c212_4,e212,hx212_0,hx212_1,hx212_2,hx212_3,hx212_4,hx212_5,hl212_4,hi212_4⟩:=at_T33 HR0_3.out x6_1 p212 q212
       cases e212
       replace hx212_0:=(HB.out.cell (World.block_lt_of_cell? w _ hx212_0)).trans hx212_0
       replace hx212_1:=(HB.out.cell (World.block_lt_of_cell? w _ hx212_1)).trans hx212_1
       replace hx212_2:=(HB.out.cell (World.block_lt_of_cell? w _ hx212_2)).trans hx212_2
       replace hx212_3:=(HB.out.cell (World.block_lt_of_cell? w _ hx212_3)).trans hx212_3
       replace hx212_4:=(HB.out.cell (World.block_lt_of_cell? w _ hx212_4)).trans hx212_4
       replace hx212_5:=(HB.out.cell (World.block_lt_of_cell? w _ hx212_5)).trans hx212_5
       have HR212_4:=aK_ hi212_4
       have HC212_4:=aK_ hl212_4
       clear hi212_4 hl212_4
       replace p212:=eq_true p212
       replace q212:=eq_true q212
       go_upto_region 12 with (first|((with_reducible refine zAk (N:=7) rfl ?_);(try (refine gate_guard (by rfl) ?_;dsimp only));refine zAh ?hg (N:=7) ?hd (cs:=#[.int .i64 0,.int .i64 0,.int .i64 0,.int .i64 0,.slice none 0 0,.int .i64 0]) (t:=33) ?hr ?_;(case hd=>rfl);(case hg=>rfl);(case hr=>first|(go_simp;done)|(go_simp;rfl));intro gb213 hg w18 hbox hb;have n0_:=aK_ (zAb (g:=gb210) (o:=.cells #[.string a0_0,.slice A0_1 l0_1.length c0_1,.int .i64 a0_2,.slice (some ad212) l0_3.length c0_3] 25 (0,0)) (by (with_reducible repeat (first|refine zAH ?_ _|refine zAJ ?_|refine zAI ?_ _));exact BK210.out) hb);have n1_:=aK_ (zAM (by repeat (first|(with_reducible first|exact HB.out|apply zAB|apply zAA|apply zAD|refine zAF ?_ GE210.out)|exact HB.out)) hb);have n2_:=aK_ (hbox);have n3_:=aK_ ((by rw [hg];exact (zAK (by repeat (first|(with_reducible first|exact HB.out|apply zAB|apply zAA|apply zAD|refine zAF ?_ GE210.out)|exact HB.out))):w.heap.size≤gb213));have n4_:=aK_ ((by rw [hg];exact (zAK (by repeat (first|(with_reducible first|exact HB.out|apply zAB|apply zAA|apply zAD|refine zAF ?_ GE210.out)|exact HB.out))):w.heap.size≤gb213));have n5_:=aK_ ((by rw [hg];exact Nat.ne_of_lt (blk_lt (g:=gb210) (o:=.cells #[.string a0_0,.slice A0_1 l0_1.length c0_1,.int .i64 a0_2,.slice (some ad212) l0_3.length c0_3] 25 (0,0)) (by (with_reducible repeat (first|refine zAH ?_ _|refine zAJ ?_|refine zAI ?_ _));exact BK210.out)):gb210≠gb213));have n6_:=aK_ ((by rw [hg];exact Nat.ne_of_gt (blk_lt (g:=gb210) (o:=.cells #[.string a0_0,.slice A0_1 l0_1.length c0_1,.int .i64 a0_2,.slice (some ad212) l0_3.length c0_3] 25 (0,0)) (by (with_reducible repeat (first|refine zAH ?_ _|refine zAJ ?_|refine zAI ?_ _));exact BK210.out)):gb213≠gb210));clear BK210;clear HB;have BK210:=n0_;have HB:=n1_;have BK213:=n2_;have GW213:=n3_;have GE213:=n4_;have NB210_213:=n5_;have NB213_210:=n6_;clear n0_ n1_ n2_ n3_ n4_ n5_ n6_;clear hb hbox hg;have hnb19:=NB213_210.out;have hnc19:=NB210_213.out;have hcz20_0:w18.cell? ⟨gb213,0,none⟩=some (.int .i64 0):=(zAE BK213.out 0).trans rfl;have hcz20_1:w18.cell? ⟨gb213,1,none⟩=some (.int .i64 0):=(zAE BK213.out 1).trans rfl;have hcz20_2:w18.cell? ⟨gb213,2,none⟩=some (.int .i64 0):=(zAE BK213.out 2).trans rfl;have hcz20_3:w18.cell? ⟨gb213,3,none⟩=some (.int .i64 0):=(zAE BK213.out 3).trans rfl;have hcz20_4:w18.cell? ⟨gb213,4,none⟩=some (.slice none 0 0):=(zAE BK213.out 4).trans rfl;have hcz20_5:w18.cell? ⟨gb213,5,none⟩=some (.int .i64 0):=(zAE BK213.out 5).trans rfl;have hfz20_0:=zAC BK213.out 0;have hfz20_1:=zAC BK213.out 1;have hfz20_2:=zAC BK213.out 2;have hfz20_3:=zAC BK213.out 3;have hfz20_4:=zAC BK213.out 4;have hfz20_5:=zAC BK213.out 5)|((with_reducible refine zAf (f:=24) rfl ?_);refine goesL_ (some 31) rfl rfl Tryd.func24 (by kernel_rfl) rfl #[.agg #[.int .i64 ((zAG l0_3 x6_1).f0),.int .i64 ((zAG l0_3 x6_1).f1),.int .i64 ((zAG l0_3 x6_1).f2),.int .i64 ((zAG l0_3 x6_1).f3),.slice A212_4 ((zAG l0_3 x6_1).f4).length c212_4,.int .i64 ((zAG l0_3 x6_1).f5)]] rfl (by (try simp only [List.map_toArray,List.map_cons,List.map_nil]);first|done|rfl|(simp only [List.length_drop,List.length_take];rfl)) ?_;(with_reducible refine (zAL.calls k1 ((zAG l0_3 x6_1).f0) ((zAG l0_3 x6_1).f1) ((zAG l0_3 x6_1).f2) ((zAG l0_3 x6_1).f3) _ _ ((zAG l0_3 x6_1).f4) ((zAG l0_3 x6_1).f5) t214 _ ?side1 ?side2 A15.out).mono ?_);(case side1=>exact Kd.C_below HR212_4.out (by repeat (first|(with_reducible first|exact HB.out|apply zAB|apply zAA|apply zAD|refine zAF ?_ GE210.out|refine zAF ?_ GE213.out)|exact HB.out)));(case side2=>exact HC212_4.out);rintro e w21 ⟨rfl,hb⟩;refine ⟨_,rfl,?_⟩;have n0_:=aK_ (zAb (g:=gb210) (o:=.cells #[.string a0_0,.slice A0_1 l0_1.length c0_1,.int .i64 a0_2,.slice (some ad212) l0_3.length c0_3] 25 (0,0)) (by (with_reducible repeat (first|refine zAH ?_ _|refine zAJ ?_|refine zAI ?_ _));refine blk_far ?_ NB210_213.out _;(with_reducible repeat (first|refine zAH ?_ _|refine zAJ ?_|refine zAI ?_ _));refine blk_far ?_ NB210_213.out _;(with_reducible repeat (first|refine zAH ?_ _|refine zAJ ?_|refine zAI ?_ _));refine blk_far ?_ NB210_213.out _;(with_reducible repeat (first|refine zAH ?_ _|refine zAJ ?_|refine zAI ?_ _));refine blk_far ?_ NB210_213.out _;(with_reducible repeat (first|refine zAH ?_ _|refine zAJ ?_|refine zAI ?_ _));refine blk_far ?_ NB210_213.out _;(with_reducible repeat (first|refine zAH ?_ _|refine zAJ ?_|refine zAI ?_ _));refine blk_far ?_ NB210_213.out _;(with_reducible repeat (first|refine zAH ?_ _|refine zAJ ?_|refine zAI ?_ _));exact BK210.out) hb);have n1_:=aK_ (zAb (g:=gb213) (o:=.cells #[.int .i64 ((zAG l0_3 x6_1).f0),.int .i64 ((zAG l0_3 x6_1).f1),.int .i64 ((zAG l0_3 x6_1).f2),.int .i64 ((zAG l0_3 x6_1).f3),.slice A212_4 ((zAG l0_3 x6_1).f4).length c212_4,.int .i64 ((zAG l0_3 x6_1).f5)] 33 (0,0)) (by (with_reducible repeat (first|refine zAH ?_ _|refine zAJ ?_|refine zAI ?_ _));refine zAq (cs:=#[.int .i64 ((zAG l0_3 x6_1).f0),.int .i64 ((zAG l0_3 x6_1).f1),.int .i64 ((zAG l0_3 x6_1).f2),.int .i64 ((zAG l0_3 x6_1).f3),.slice A212_4 ((zAG l0_3 x6_1).f4).length c212_4,.int .i64 0]) ?_ 5 _ rfl;(with_reducible repeat (first|refine zAH ?_ _|refine zAJ ?_|refine zAI ?_ _));refine zAq (cs:=#[.int .i64 ((zAG l0_3 x6_1).f0),.int .i64 ((zAG l0_3 x6_1).f1),.int .i64 ((zAG l0_3 x6_1).f2),.int .i64 ((zAG l0_3 x6_1).f3),.slice none 0 0,.int .i64 0]) ?_ 4 _ rfl;(with_reducible repeat (first|refine zAH ?_ _|refine zAJ ?_|refine zAI ?_ _));refine zAq (cs:=#[.int .i64 ((zAG l0_3 x6_1).f0),.int .i64 ((zAG l0_3 x6_1).f1),.int .i64 ((zAG l0_3 x6_1).f2),.int .i64 0,.slice none 0 0,.int .i64 0]) ?_ 3 _ rfl;(with_reducible repeat (first|refine zAH ?_ _|refine zAJ ?_|refine zAI ?_ _));refine zAq (cs:=#[.int .i64 ((zAG l0_3 x6_1).f0),.int .i64 ((zAG l0_3 x6_1).f1),.int .i64 0,.int .i64 0,.slice none 0 0,.int .i64 0]) ?_ 2 _ rfl;(with_reducible repeat (first|refine zAH ?_ _|refine zAJ ?_|refine zAI ?_ _));refine zAq (cs:=#[.int .i64 ((zAG l0_3 x6_1).f0),.int .i64 0,.int .i64 0,.int .i64 0,.slice none 0 0,.int .i64 0]) ?_ 1 _ rfl;(with_reducible repeat (first|refine zAH ?_ _|refine zAJ ?_|refine zAI ?_ _));refine zAq (cs:=#[.int .i64 0,.int .i64 0,.int .i64 0,.int .i64 0,.slice none 0 0,.int .i64 0]) ?_ 0 _ rfl;(with_reducible repeat (first|refine zAH ?_ _|refine zAJ ?_|refine zAI ?_ _));exact BK213.out) hb);have n2_:=aK_ (zAM (by repeat (first|(with_reducible first|exact HB.out|apply zAB|apply zAA|apply zAD|refine zAF ?_ GE210.out|refine zAF ?_ GE213.out)|exact HB.out)) hb);clear BK210;clear BK213;clear HB;have BK210:=n0_;have BK213:=n1_;have HB:=n2_;clear n0_ n1_ n2_;(try clear hb);(try clear hb2);(try clear hk);(try clear hi)))
       (try simp only [Act.put,List.setIfInBounds_toArray,List.set_cons_zero,List.set_cons_succ])
       go_cut [46] (fun v46 wc=>∃ (kq:Nat) (x46_15:Bool),v46 = .bool x46_15∧zAg (zAN.j1 kq x5_1 x6_1 t214 x46_15 a0_0 l0_1 a0_2 l0_3 ((zAG l0_3 x6_1).f0) ((zAG l0_3 x6_1).f1) ((zAG l0_3 x6_1).f2) ((zAG l0_3 x6_1).f3) ((zAG l0_3 x6_1).f4) ((zAG l0_3 x6_1).f5)=some (r1,r2))∧zAg (kq≤k1)∧zAg (wc.heap[gb210]?=some (.cells #[.string a0_0,(.slice A0_1 l0_1.length c0_1),.int .i64 a0_2,(.slice (some ad212) l0_3.length c0_3)] 25 (0,0)))∧zAg (wc.heap[gb213]?=some (.cells #[.int .i64 ((zAG l0_3 x6_1).f0),.int .i64 ((zAG l0_3 x6_1).f1),.int .i64 ((zAG l0_3 x6_1).f2),.int .i64 ((zAG l0_3 x6_1).f3),(.slice A212_4 ((zAG l0_3 x6_1).f4).length c212_4),.int .i64 ((zAG l0_3 x6_1).f5)] 33 (0,0)))∧zAg (Below w.heap.size w wc))
       case first =>
        have H:=HC16.out
        clear HC16
        by_cases c22:t214<0
        ·rw [if_pos c22] at H
         have c22b0:decide (t214<0)=true:=decide_eq_true c22
         clear c22
         (first|rw [c22b0]|(simp only [i64_w,i32_w];rw [c22b0])|skip)
         have H':=aK_ H
         clear H
         go_wp2
         go_meet
         case rel=>exact ⟨_,(true),(by first|rfl|(simp;done)|(simp [*];done)),H',⟨by have:=HK1.out;first|omega|exact Nat.le_refl _⟩,⟨by (with_reducible repeat (first|refine zAH ?_ _|refine zAJ ?_|refine zAI ?_ _));exact BK210.out⟩,⟨by (with_reducible repeat (first|refine zAH ?_ _|refine zAJ ?_|refine zAI ?_ _));exact BK213.out⟩,⟨by repeat (first|(with_reducible first|exact HB.out|apply zAB|apply zAA|apply zAD|refine zAF ?_ GE210.out|refine zAF ?_ GE213.out)|exact HB.out)⟩⟩
        ·rw [if_neg c22] at H
         have c22b0:decide (t214<0)=false:=decide_eq_false c22
         clear c22
         (first|rw [c22b0]|(simp only [i64_w,i32_w];rw [c22b0])|skip)
         replace H:=Option.bind_eq_some_iff.mp H
         obtain ⟨t215,A230,H⟩:=H
         replace H:(if t215=true then (zAN.j1 k1 x5_1 x6_1 t214 (decide (x5_1<t214)) a0_0 l0_1 a0_2 l0_3 ((zAG l0_3 x6_1).f0) ((zAG l0_3 x6_1).f1) ((zAG l0_3 x6_1).f2) ((zAG l0_3 x6_1).f3) ((zAG l0_3 x6_1).f4) ((zAG l0_3 x6_1).f5)) else (zAN.j1 k1 x5_1 x6_1 t214 true a0_0 l0_1 a0_2 l0_3 ((zAG l0_3 x6_1).f0) ((zAG l0_3 x6_1).f1) ((zAG l0_3 x6_1).f2) ((zAG l0_3 x6_1).f3) ((zAG l0_3 x6_1).f4) ((zAG l0_3 x6_1).f5)))=some (r1,r2):=H
         have A23:=aK_ A230
         clear A230
         by_cases c24:t215=true
         ·subst c24
          have H1:(zAN.j1 k1 x5_1 x6_1 t214 (decide (x5_1<t214)) a0_0 l0_1 a0_2 l0_3 ((zAG l0_3 x6_1).f0) ((zAG l0_3 x6_1).f1) ((zAG l0_3 x6_1).f2) ((zAG l0_3 x6_1).f3) ((zAG l0_3 x6_1).f4) ((zAG l0_3 x6_1).f5))=some (r1,r2):=by rw [if_pos rfl] at H;exact H
          clear H
          have H:=H1
          clear H1
          have H':=aK_ H
          clear H
          have hnb25:=NB213_210.out
          have hnc25:=NB210_213.out
          have hcz26_0:w21.cell? ⟨gb213,0,none⟩=some (.int .i64 ((zAG l0_3 x6_1).f0)):=(zAE BK213.out 0).trans rfl
          have hcz26_1:w21.cell? ⟨gb213,1,none⟩=some (.int .i64 ((zAG l0_3 x6_1).f1)):=(zAE BK213.out 1).trans rfl
          have hcz26_2:w21.cell? ⟨gb213,2,none⟩=some (.int .i64 ((zAG l0_3 x6_1).f2)):=(zAE BK213.out 2).trans rfl
          have hcz26_3:w21.cell? ⟨gb213,3,none⟩=some (.int .i64 ((zAG l0_3 x6_1).f3)):=(zAE BK213.out 3).trans rfl
          have hcz26_4:w21.cell? ⟨gb213,4,none⟩=some (.slice A212_4 ((zAG l0_3 x6_1).f4).length c212_4):=(zAE BK213.out 4).trans rfl
          have hcz26_5:w21.cell? ⟨gb213,5,none⟩=some (.int .i64 ((zAG l0_3 x6_1).f5)):=(zAE BK213.out 5).trans rfl
          have hfz26_0:=zAC BK213.out 0
          have hfz26_1:=zAC BK213.out 1
          have hfz26_2:=zAC BK213.out 2
          have hfz26_3:=zAC BK213.out 3
          have hfz26_4:=zAC BK213.out 4
          have hfz26_5:=zAC BK213.out 5
          have hcz27_0:w21.cell? ⟨gb210,0,none⟩=some (.string a0_0):=(zAE BK210.out 0).trans rfl
          have hcz27_1:w21.cell? ⟨gb210,1,none⟩=some (.slice A0_1 l0_1.length c0_1):=(zAE BK210.out 1).trans rfl
          have hcz27_2:w21.cell? ⟨gb210,2,none⟩=some (.int .i64 a0_2):=(zAE BK210.out 2).trans rfl
          have hcz27_3:w21.cell? ⟨gb210,3,none⟩=some (.slice (some ad212) l0_3.length c0_3):=(zAE BK210.out 3).trans rfl
          have hfz27_0:=zAC BK210.out 0
          have hfz27_1:=zAC BK210.out 1
          have hfz27_2:=zAC BK210.out 2
          have hfz27_3:=zAC BK210.out 3
          go_wp2_with (first|(go_at_call 41;(with_reducible refine (zAW.calls k1 ((zAG l0_3 x6_1).f0) ((zAG l0_3 x6_1).f1) ((zAG l0_3 x6_1).f2) ((zAG l0_3 x6_1).f3) _ _ ((zAG l0_3 x6_1).f4) ((zAG l0_3 x6_1).f5) (l0_1.length:Int) true _ ?side1 ?side2 A23.out).mono ?_);(case side1=>repeat (first|exact (Kd.C_below HR212_4.out HB.out)|(with_reducible refine Kd.C_alloc ?_ _)|(with_reducible refine Kd.C_drewN ?_ _)|(with_reducible refine Kd.C_drew ?_)));(case side2=>exact HC212_4.out);rintro e w28 ⟨rfl,hb⟩;have n0_:=aK_ (zAb (g:=gb210) (o:=.cells #[.string a0_0,.slice A0_1 l0_1.length c0_1,.int .i64 a0_2,.slice (some ad212) l0_3.length c0_3] 25 (0,0)) (by (with_reducible repeat (first|refine zAH ?_ _|refine zAJ ?_|refine zAI ?_ _));exact BK210.out) hb);have n1_:=aK_ (zAb (g:=gb213) (o:=.cells #[.int .i64 ((zAG l0_3 x6_1).f0),.int .i64 ((zAG l0_3 x6_1).f1),.int .i64 ((zAG l0_3 x6_1).f2),.int .i64 ((zAG l0_3 x6_1).f3),.slice A212_4 ((zAG l0_3 x6_1).f4).length c212_4,.int .i64 ((zAG l0_3 x6_1).f5)] 33 (0,0)) (by (with_reducible repeat (first|refine zAH ?_ _|refine zAJ ?_|refine zAI ?_ _));exact BK213.out) hb);have n2_:=aK_ (zAM (by repeat (first|(with_reducible first|exact HB.out|apply zAB|apply zAA|apply zAD|refine zAF ?_ GE210.out|refine zAF ?_ GE213.out)|exact HB.out)) hb);clear BK210;clear BK213;clear HB;have BK210:=n0_;have BK213:=n1_;have HB:=n2_;clear n0_ n1_ n2_;(try clear hb);(try clear hb2);(try clear hk);(try clear hi)))
          go_meet
          case rel=>exact ⟨_,(decide (x5_1<t214)),(by first|rfl|(simp;done)|(simp [*];done)),H',⟨by have:=HK1.out;first|omega|exact Nat.le_refl _⟩,⟨by (with_reducible repeat (first|refine zAH ?_ _|refine zAJ ?_|refine zAI ?_ _));exact BK210.out⟩,⟨by (with_reducible repeat (first|refine zAH ?_ _|refine zAJ ?_|refine zAI ?_ _));exact BK213.out⟩,⟨by repeat (first|(with_reducible first|exact HB.out|apply zAB|apply zAA|apply zAD|refine zAF ?_ GE210.out|refine zAF ?_ GE213.out)|exact HB.out)⟩⟩
         ·replace c24:=Bool.eq_false_iff.mpr c24
          subst c24
          have H1:(zAN.j1 k1 x5_1 x6_1 t214 true a0_0 l0_1 a0_2 l0_3 ((zAG l0_3 x6_1).f0) ((zAG l0_3 x6_1).f1) ((zAG l0_3 x6_1).f2) ((zAG l0_3 x6_1).f3) ((zAG l0_3 x6_1).f4) ((zAG l0_3 x6_1).f5))=some (r1,r2):=by rw [if_neg (show ¬ (false=true) by decide)] at H;exact H
          clear H
          have H:=H1
          clear H1
          have H':=aK_ H
          clear H
          have hnb29:=NB213_210.out
          have hnc29:=NB210_213.out
          have hcz30_0:w21.cell? ⟨gb213,0,none⟩=some (.int .i64 ((zAG l0_3 x6_1).f0)):=(zAE BK213.out 0).trans rfl
          have hcz30_1:w21.cell? ⟨gb213,1,none⟩=some (.int .i64 ((zAG l0_3 x6_1).f1)):=(zAE BK213.out 1).trans rfl
          have hcz30_2:w21.cell? ⟨gb213,2,none⟩=some (.int .i64 ((zAG l0_3 x6_1).f2)):=(zAE BK213.out 2).trans rfl
          have hcz30_3:w21.cell? ⟨gb213,3,none⟩=some (.int .i64 ((zAG l0_3 x6_1).f3)):=(zAE BK213.out 3).trans rfl
          have hcz30_4:w21.cell? ⟨gb213,4,none⟩=some (.slice A212_4 ((zAG l0_3 x6_1).f4).length c212_4):=(zAE BK213.out 4).trans rfl
          have hcz30_5:w21.cell? ⟨gb213,5,none⟩=some (.int .i64 ((zAG l0_3 x6_1).f5)):=(zAE BK213.out 5).trans rfl
          have hfz30_0:=zAC BK213.out 0
          have hfz30_1:=zAC BK213.out 1
          have hfz30_2:=zAC BK213.out 2
          have hfz30_3:=zAC BK213.out 3
          have hfz30_4:=zAC BK213.out 4
          have hfz30_5:=zAC BK213.out 5
          have hcz31_0:w21.cell? ⟨gb210,0,none⟩=some (.string a0_0):=(zAE BK210.out 0).trans rfl
          have hcz31_1:w21.cell? ⟨gb210,1,none⟩=some (.slice A0_1 l0_1.length c0_1):=(zAE BK210.out 1).trans rfl
          have hcz31_2:w21.cell? ⟨gb210,2,none⟩=some (.int .i64 a0_2):=(zAE BK210.out 2).trans rfl
          have hcz31_3:w21.cell? ⟨gb210,3,none⟩=some (.slice (some ad212) l0_3.length c0_3):=(zAE BK210.out 3).trans rfl
          have hfz31_0:=zAC BK210.out 0
          have hfz31_1:=zAC BK210.out 1
          have hfz31_2:=zAC BK210.out 2
          have hfz31_3:=zAC BK210.out 3
          go_wp2_with (first|(go_at_call 41;(with_reducible refine (zAW.calls k1 ((zAG l0_3 x6_1).f0) ((zAG l0_3 x6_1).f1) ((zAG l0_3 x6_1).f2) ((zAG l0_3 x6_1).f3) _ _ ((zAG l0_3 x6_1).f4) ((zAG l0_3 x6_1).f5) (l0_1.length:Int) false _ ?side1 ?side2 A23.out).mono ?_);(case side1=>repeat (first|exact (Kd.C_below HR212_4.out HB.out)|(with_reducible refine Kd.C_alloc ?_ _)|(with_reducible refine Kd.C_drewN ?_ _)|(with_reducible refine Kd.C_drew ?_)));(case side2=>exact HC212_4.out);rintro e w32 ⟨rfl,hb⟩;have n0_:=aK_ (zAb (g:=gb210) (o:=.cells #[.string a0_0,.slice A0_1 l0_1.length c0_1,.int .i64 a0_2,.slice (some ad212) l0_3.length c0_3] 25 (0,0)) (by (with_reducible repeat (first|refine zAH ?_ _|refine zAJ ?_|refine zAI ?_ _));exact BK210.out) hb);have n1_:=aK_ (zAb (g:=gb213) (o:=.cells #[.int .i64 ((zAG l0_3 x6_1).f0),.int .i64 ((zAG l0_3 x6_1).f1),.int .i64 ((zAG l0_3 x6_1).f2),.int .i64 ((zAG l0_3 x6_1).f3),.slice A212_4 ((zAG l0_3 x6_1).f4).length c212_4,.int .i64 ((zAG l0_3 x6_1).f5)] 33 (0,0)) (by (with_reducible repeat (first|refine zAH ?_ _|refine zAJ ?_|refine zAI ?_ _));exact BK213.out) hb);have n2_:=aK_ (zAM (by repeat (first|(with_reducible first|exact HB.out|apply zAB|apply zAA|apply zAD|refine zAF ?_ GE210.out|refine zAF ?_ GE213.out)|exact HB.out)) hb);clear BK210;clear BK213;clear HB;have BK210:=n0_;have BK213:=n1_;have HB:=n2_;clear n0_ n1_ n2_;(try clear hb);(try clear hb2);(try clear hk);(try clear hi)))
          go_meet
          case rel=>exact ⟨_,(true),(by first|rfl|(simp;done)|(simp [*];done)),H',⟨by have:=HK1.out;first|omega|exact Nat.le_refl _⟩,⟨by (with_reducible repeat (first|refine zAH ?_ _|refine zAJ ?_|refine zAI ?_ _));exact BK210.out⟩,⟨by (with_reducible repeat (first|refine zAH ?_ _|refine zAJ ?_|refine zAI ?_ _));exact BK213.out⟩,⟨by repeat (first|(with_reducible first|exact HB.out|apply zAB|apply zAA|apply zAD|refine zAF ?_ GE210.out|refine zAF ?_ GE213.out)|exact HB.out)⟩⟩
       case rest =>
        clear HC16
        try clear c1
        try clear c2
        try clear p2
        try clear q2
        try clear hx2
        try clear c3
        try clear c3b0
        try clear c3b1
        try clear c4
        try clear c4b0
        try clear c4b1
        try clear c13
        try clear c13b0
        try clear c14
        try clear c14b0
        try clear c17
        try clear c19
        try clear c21
        try clear p21
        try clear q21
        try clear hx21
        try clear c22
        try clear c22b0
        try clear c24
        try clear c25
        try clear c29
        try clear hcz10_0
        try clear hcz10_1
        try clear hcz10_2
        try clear hcz10_3
        try clear hcz12_0
        try clear hcz12_1
        try clear hcz12_2
        try clear hcz12_3
        try clear hcz17_0
        try clear hcz17_1
        try clear hcz17_2
        try clear hcz17_3
        try clear hcz20_0
        try clear hcz20_1
        try clear hcz20_2
        try clear hcz20_3
        try clear hcz20_4
        try clear hcz20_5
        try clear hcz26_0
        try clear hcz26_1
        try clear hcz26_2
        try clear hcz26_3
        try clear hcz26_4
        try clear hcz26_5
        try clear hcz27_0
        try clear hcz27_1
        try clear hcz27_2
        try clear hcz27_3
        try clear hcz30_0
        try clear hcz30_1
        try clear hcz30_2
        try clear hcz30_3
        try clear hcz30_4
        try clear hcz30_5
        try clear hcz31_0
        try clear hcz31_1
        try clear hcz31_2
        try clear hcz31_3
        try clear hcz6_0
        try clear hcz6_1
        try clear hcz6_2
        try clear hcz6_3
        try clear hcz8_0
        try clear hcz8_1
        try clear hcz8_2
        try clear hcz8_3
        try clear hfz10_0
        try clear hfz10_1
        try clear hfz10_2
        try clear hfz10_3
        try clear hfz12_0
        try clear hfz12_1
        try clear hfz12_2
        try clear hfz12_3
        try clear hfz17_0
        try clear hfz17_1
        try clear hfz17_2
        try clear hfz17_3
        try clear hfz20_0
        try clear hfz20_1
        try clear hfz20_2
        try clear hfz20_3
        try clear hfz20_4
        try clear hfz20_5
        try clear hfz26_0
        try clear hfz26_1
        try clear hfz26_2
        try clear hfz26_3
        try clear hfz26_4
        try clear hfz26_5
        try clear hfz27_0
        try clear hfz27_1
        try clear hfz27_2
        try clear hfz27_3
        try clear hfz30_0
        try clear hfz30_1
        try clear hfz30_2
        try clear hfz30_3
        try clear hfz30_4
        try clear hfz30_5
        try clear hfz31_0
        try clear hfz31_1
        try clear hfz31_2
        try clear hfz31_3
        try clear hfz6_0
        try clear hfz6_1
        try clear hfz6_2
        try clear hfz6_3
        try clear hfz8_0
        try clear hfz8_1
        try clear hfz8_2
        try clear hfz8_3
        try clear hx212_0
        try clear hx212_1
        try clear hx212_2
        try clear hx212_3
        try clear hx212_4
        try clear hx212_5
        try clear p2
        try clear p212
        try clear q212
        obtain ⟨kq,x46_15,rfl,HA,HJ15,BK210,BK213,HB⟩:=hcut
        cases kq with
        |zero=>exact absurd HA.out (by simp [zAN.j1])
        |succ kj15 =>
         have H:=HA.out
         clear HA
         simp only [zAN.j1] at H
         by_cases c33:x46_15=true
         ·subst c33
          have H1:(some (x6_1,50))=some (r1,r2):=by rw [if_pos rfl] at H;exact H
          clear H
          have H:=H1
          clear H1
          simp only [Option.some.injEq,Prod.mk.injEq] at H
          obtain ⟨rfl,rfl⟩:=H
          go_wp2
          go_ret2
          exact ⟨by first|rfl|(simp [zAQ,zAP] <;> rfl)|(simp [*,zAQ,zAP] <;> rfl),by repeat (first|(with_reducible first|exact HB.out|apply zAB|apply zAA|apply zAD|refine zAF ?_ GE210.out|refine zAF ?_ GE213.out)|exact HB.out)⟩
         ·replace c33:=Bool.eq_false_iff.mpr c33
          subst c33
          have H1:(if ((zAG l0_3 x6_1).f0)=13 then ((zAT.f kj15 ((zAG l0_3 x6_1).f4)).bind fun t216=>(if t216=true then (zAN.l0 kj15 (wrap64 ((wrap64 (x5_1 - t214))+1)) (wrap64 (x6_1+1)) a0_0 l0_1 a0_2 l0_3) else (some (x6_1,51)))) else (if ((zAG l0_3 x6_1).f0)=14 then ((zAT.f kj15 ((zAG l0_3 x6_1).f4)).bind fun t217=>(if t217=true then (zAN.l0 kj15 (wrap64 ((wrap64 (x5_1 - t214))+1)) (wrap64 (x6_1+1)) a0_0 l0_1 a0_2 l0_3) else (some (x6_1,51)))) else (zAN.l0 kj15 (wrap64 ((wrap64 (x5_1 - t214))+1)) (wrap64 (x6_1+1)) a0_0 l0_1 a0_2 l0_3)))=some (r1,r2):=by rw [if_neg (show ¬ (false=true) by decide)] at H;exact H
          clear H
          have H:=H1
          clear H1
          by_cases c34:((zAG l0_3 x6_1).f0)=13
          ·rw [if_pos c34] at H
           have c34b0:(((zAG l0_3 x6_1).f0) == 13)=true:=beq_iff_eq.mpr c34
           have c34b1:(((zAG l0_3 x6_1).f0) != 13)=false:=bne_eq_false_iff_eq.mpr c34
           clear c34
           replace H:=Option.bind_eq_some_iff.mp H
           obtain ⟨t216,A350,H⟩:=H
           replace H:(if t216=true then (zAN.l0 kj15 (wrap64 ((wrap64 (x5_1 - t214))+1)) (wrap64 (x6_1+1)) a0_0 l0_1 a0_2 l0_3) else (some (x6_1,51)))=some (r1,r2):=H
           have A35:=aK_ A350
           clear A350
           by_cases c36:t216=true
           ·subst c36
            have H1:(zAN.l0 kj15 (wrap64 ((wrap64 (x5_1 - t214))+1)) (wrap64 (x6_1+1)) a0_0 l0_1 a0_2 l0_3)=some (r1,r2):=by rw [if_pos rfl] at H;exact H
            clear H
            have H:=H1
            clear H1
            have H':=aK_ H
            clear H
            have hnb37:=NB213_210.out
            have hnc37:=NB210_213.out
            have hcz38_0:wc.cell? ⟨gb213,0,none⟩=some (.int .i64 ((zAG l0_3 x6_1).f0)):=(zAE BK213.out 0).trans rfl
            have hcz38_1:wc.cell? ⟨gb213,1,none⟩=some (.int .i64 ((zAG l0_3 x6_1).f1)):=(zAE BK213.out 1).trans rfl
            have hcz38_2:wc.cell? ⟨gb213,2,none⟩=some (.int .i64 ((zAG l0_3 x6_1).f2)):=(zAE BK213.out 2).trans rfl
            have hcz38_3:wc.cell? ⟨gb213,3,none⟩=some (.int .i64 ((zAG l0_3 x6_1).f3)):=(zAE BK213.out 3).trans rfl
            have hcz38_4:wc.cell? ⟨gb213,4,none⟩=some (.slice A212_4 ((zAG l0_3 x6_1).f4).length c212_4):=(zAE BK213.out 4).trans rfl
            have hcz38_5:wc.cell? ⟨gb213,5,none⟩=some (.int .i64 ((zAG l0_3 x6_1).f5)):=(zAE BK213.out 5).trans rfl
            have hfz38_0:=zAC BK213.out 0
            have hfz38_1:=zAC BK213.out 1
            have hfz38_2:=zAC BK213.out 2
            have hfz38_3:=zAC BK213.out 3
            have hfz38_4:=zAC BK213.out 4
            have hfz38_5:=zAC BK213.out 5
            go_wp2_with (first|(go_at_call 42;(with_reducible refine (zAT.calls kj15 _ _ ((zAG l0_3 x6_1).f4) true _ ?side1 ?side2 A35.out).mono ?_);(case side1=>repeat (first|exact (Kd.C_below HR212_4.out HB.out)|(with_reducible refine Kd.C_alloc ?_ _)|(with_reducible refine Kd.C_drewN ?_ _)|(with_reducible refine Kd.C_drew ?_)));(case side2=>exact HC212_4.out);rintro e w' ⟨rfl,⟨nd,rfl⟩⟩))
            go_roundg kj15
            case measure=>have:=HK1.out;have:=HJ15.out;omega
            case rel=>exact ⟨(wrap64 ((wrap64 (x5_1 - t214))+1)),(wrap64 (x6_1+1)),(by first|rfl|(simp;done)|(simp [*];done)),(by first|rfl|(simp;done)|(simp [*];done)),H',⟨by have:=HK1.out;have:=HJ15.out;omega⟩,⟨by (with_reducible repeat (first|refine zAH ?_ _|refine zAJ ?_|refine zAI ?_ _));exact BK210.out⟩,⟨by repeat (first|(with_reducible first|exact HB.out|apply zAB|apply zAA|apply zAD|refine zAF ?_ GE210.out|refine zAF ?_ GE213.out)|exact HB.out)⟩⟩
           ·replace c36:=Bool.eq_false_iff.mpr c36
            subst c36
            have H1:(some (x6_1,51))=some (r1,r2):=by rw [if_neg (show ¬ (false=true) by decide)] at H;exact H
            clear H
            have H:=H1
            clear H1
            simp only [Option.some.injEq,Prod.mk.injEq] at H
            obtain ⟨rfl,rfl⟩:=H
            have hnb39:=NB213_210.out
            have hnc39:=NB210_213.out
            have hcz40_0:wc.cell? ⟨gb213,0,none⟩=some (.int .i64 ((zAG l0_3 x6_1).f0)):=(zAE BK213.out 0).trans rfl
            have hcz40_1:wc.cell? ⟨gb213,1,none⟩=some (.int .i64 ((zAG l0_3 x6_1).f1)):=(zAE BK213.out 1).trans rfl
            have hcz40_2:wc.cell? ⟨gb213,2,none⟩=some (.int .i64 ((zAG l0_3 x6_1).f2)):=(zAE BK213.out 2).trans rfl
            have hcz40_3:wc.cell? ⟨gb213,3,none⟩=some (.int .i64 ((zAG l0_3 x6_1).f3)):=(zAE BK213.out 3).trans rfl
            have hcz40_4:wc.cell? ⟨gb213,4,none⟩=some (.slice A212_4 ((zAG l0_3 x6_1).f4).length c212_4):=(zAE BK213.out 4).trans rfl
            have hcz40_5:wc.cell? ⟨gb213,5,none⟩=some (.int .i64 ((zAG l0_3 x6_1).f5)):=(zAE BK213.out 5).trans rfl
            have hfz40_0:=zAC BK213.out 0
            have hfz40_1:=zAC BK213.out 1
            have hfz40_2:=zAC BK213.out 2
            have hfz40_3:=zAC BK213.out 3
            have hfz40_4:=zAC BK213.out 4
            have hfz40_5:=zAC BK213.out 5
            go_wp2_with (first|(go_at_call 42;(with_reducible refine (zAT.calls kj15 _ _ ((zAG l0_3 x6_1).f4) false _ ?side1 ?side2 A35.out).mono ?_);(case side1=>repeat (first|exact (Kd.C_below HR212_4.out HB.out)|(with_reducible refine Kd.C_alloc ?_ _)|(with_reducible refine Kd.C_drewN ?_ _)|(with_reducible refine Kd.C_drew ?_)));(case side2=>exact HC212_4.out);rintro e w' ⟨rfl,⟨nd,rfl⟩⟩))
            go_ret2
            exact ⟨by first|rfl|(simp [zAQ,zAP] <;> rfl)|(simp [*,zAQ,zAP] <;> rfl),by repeat (first|(with_reducible first|exact HB.out|apply zAB|apply zAA|apply zAD|refine zAF ?_ GE210.out|refine zAF ?_ GE213.out)|exact HB.out)⟩
          ·rw [if_neg c34] at H
           have c34b0:(((zAG l0_3 x6_1).f0) == 13)=false:=beq_eq_false_iff_ne.mpr c34
           have c34b1:(((zAG l0_3 x6_1).f0) != 13)=true:=bne_iff_ne.mpr c34
           by_cases c41:((zAG l0_3 x6_1).f0)=14
           ·rw [if_pos c41] at H
            have c41b0:(((zAG l0_3 x6_1).f0) == 14)=true:=beq_iff_eq.mpr c41
            have c41b1:(((zAG l0_3 x6_1).f0) != 14)=false:=bne_eq_false_iff_eq.mpr c41
            clear c41
            replace H:=Option.bind_eq_some_iff.mp H
            obtain ⟨t217,A420,H⟩:=H
            replace H:(if t217=true then (zAN.l0 kj15 (wrap64 ((wrap64 (x5_1 - t214))+1)) (wrap64 (x6_1+1)) a0_0 l0_1 a0_2 l0_3) else (some (x6_1,51)))=some (r1,r2):=H
            have A42:=aK_ A420
            clear A420
            by_cases c43:t217=true
            ·subst c43
             have H1:(zAN.l0 kj15 (wrap64 ((wrap64 (x5_1 - t214))+1)) (wrap64 (x6_1+1)) a0_0 l0_1 a0_2 l0_3)=some (r1,r2):=by rw [if_pos rfl] at H;exact H
             clear H
             have H:=H1
             clear H1
             have H':=aK_ H
             clear H
             have hnb44:=NB213_210.out
             have hnc44:=NB210_213.out
             have hcz45_0:wc.cell? ⟨gb213,0,none⟩=some (.int .i64 ((zAG l0_3 x6_1).f0)):=(zAE BK213.out 0).trans rfl
             have hcz45_1:wc.cell? ⟨gb213,1,none⟩=some (.int .i64 ((zAG l0_3 x6_1).f1)):=(zAE BK213.out 1).trans rfl
             have hcz45_2:wc.cell? ⟨gb213,2,none⟩=some (.int .i64 ((zAG l0_3 x6_1).f2)):=(zAE BK213.out 2).trans rfl
             have hcz45_3:wc.cell? ⟨gb213,3,none⟩=some (.int .i64 ((zAG l0_3 x6_1).f3)):=(zAE BK213.out 3).trans rfl
             have hcz45_4:wc.cell? ⟨gb213,4,none⟩=some (.slice A212_4 ((zAG l0_3 x6_1).f4).length c212_4):=(zAE BK213.out 4).trans rfl
             have hcz45_5:wc.cell? ⟨gb213,5,none⟩=some (.int .i64 ((zAG l0_3 x6_1).f5)):=(zAE BK213.out 5).trans rfl
             have hfz45_0:=zAC BK213.out 0
             have hfz45_1:=zAC BK213.out 1
             have hfz45_2:=zAC BK213.out 2
             have hfz45_3:=zAC BK213.out 3
             have hfz45_4:=zAC BK213.out 4
             have hfz45_5:=zAC BK213.out 5
             go_wp2_with (first|(go_at_call 42;(with_reducible refine (zAT.calls kj15 _ _ ((zAG l0_3 x6_1).f4) true _ ?side1 ?side2 A42.out).mono ?_);(case side1=>repeat (first|exact (Kd.C_below HR212_4.out HB.out)|(with_reducible refine Kd.C_alloc ?_ _)|(with_reducible refine Kd.C_drewN ?_ _)|(with_reducible refine Kd.C_drew ?_)));(case side2=>exact HC212_4.out);rintro e w' ⟨rfl,⟨nd,rfl⟩⟩))
             go_roundg kj15
             case measure=>have:=HK1.out;have:=HJ15.out;omega
             case rel=>exact ⟨(wrap64 ((wrap64 (x5_1 - t214))+1)),(wrap64 (x6_1+1)),(by first|rfl|(simp;done)|(simp [*];done)),(by first|rfl|(simp;done)|(simp [*];done)),H',⟨by have:=HK1.out;have:=HJ15.out;omega⟩,⟨by (with_reducible repeat (first|refine zAH ?_ _|refine zAJ ?_|refine zAI ?_ _));exact BK210.out⟩,⟨by repeat (first|(with_reducible first|exact HB.out|apply zAB|apply zAA|apply zAD|refine zAF ?_ GE210.out|refine zAF ?_ GE213.out)|exact HB.out)⟩⟩
            ·replace c43:=Bool.eq_false_iff.mpr c43
             subst c43
             have H1:(some (x6_1,51))=some (r1,r2):=by rw [if_neg (show ¬ (false=true) by decide)] at H;exact H
             clear H
             have H:=H1
             clear H1
             simp only [Option.some.injEq,Prod.mk.injEq] at H
             obtain ⟨rfl,rfl⟩:=H
             have hnb46:=NB213_210.out
             have hnc46:=NB210_213.out
             have hcz47_0:wc.cell? ⟨gb213,0,none⟩=some (.int .i64 ((zAG l0_3 x6_1).f0)):=(zAE BK213.out 0).trans rfl
             have hcz47_1:wc.cell? ⟨gb213,1,none⟩=some (.int .i64 ((zAG l0_3 x6_1).f1)):=(zAE BK213.out 1).trans rfl
             have hcz47_2:wc.cell? ⟨gb213,2,none⟩=some (.int .i64 ((zAG l0_3 x6_1).f2)):=(zAE BK213.out 2).trans rfl
             have hcz47_3:wc.cell? ⟨gb213,3,none⟩=some (.int .i64 ((zAG l0_3 x6_1).f3)):=(zAE BK213.out 3).trans rfl
             have hcz47_4:wc.cell? ⟨gb213,4,none⟩=some (.slice A212_4 ((zAG l0_3 x6_1).f4).length c212_4):=(zAE BK213.out 4).trans rfl
             have hcz47_5:wc.cell? ⟨gb213,5,none⟩=some (.int .i64 ((zAG l0_3 x6_1).f5)):=(zAE BK213.out 5).trans rfl
             have hfz47_0:=zAC BK213.out 0
             have hfz47_1:=zAC BK213.out 1
             have hfz47_2:=zAC BK213.out 2
             have hfz47_3:=zAC BK213.out 3
             have hfz47_4:=zAC BK213.out 4
             have hfz47_5:=zAC BK213.out 5
             go_wp2_with (first|(go_at_call 42;(with_reducible refine (zAT.calls kj15 _ _ ((zAG l0_3 x6_1).f4) false _ ?side1 ?side2 A42.out).mono ?_);(case side1=>repeat (first|exact (Kd.C_below HR212_4.out HB.out)|(with_reducible refine Kd.C_alloc ?_ _)|(with_reducible refine Kd.C_drewN ?_ _)|(with_reducible refine Kd.C_drew ?_)));(case side2=>exact HC212_4.out);rintro e w' ⟨rfl,⟨nd,rfl⟩⟩))
             go_ret2
             exact ⟨by first|rfl|(simp [zAQ,zAP] <;> rfl)|(simp [*,zAQ,zAP] <;> rfl),by repeat (first|(with_reducible first|exact HB.out|apply zAB|apply zAA|apply zAD|refine zAF ?_ GE210.out|refine zAF ?_ GE213.out)|exact HB.out)⟩
           ·rw [if_neg c41] at H
            have c41b0:(((zAG l0_3 x6_1).f0) == 14)=false:=beq_eq_false_iff_ne.mpr c41
            have c41b1:(((zAG l0_3 x6_1).f0) != 14)=true:=bne_iff_ne.mpr c41
            have H':=aK_ H
            clear H
            have hnb48:=NB213_210.out
            have hnc48:=NB210_213.out
            have hcz49_0:wc.cell? ⟨gb213,0,none⟩=some (.int .i64 ((zAG l0_3 x6_1).f0)):=(zAE BK213.out 0).trans rfl
            have hcz49_1:wc.cell? ⟨gb213,1,none⟩=some (.int .i64 ((zAG l0_3 x6_1).f1)):=(zAE BK213.out 1).trans rfl
            have hcz49_2:wc.cell? ⟨gb213,2,none⟩=some (.int .i64 ((zAG l0_3 x6_1).f2)):=(zAE BK213.out 2).trans rfl
            have hcz49_3:wc.cell? ⟨gb213,3,none⟩=some (.int .i64 ((zAG l0_3 x6_1).f3)):=(zAE BK213.out 3).trans rfl
            have hcz49_4:wc.cell? ⟨gb213,4,none⟩=some (.slice A212_4 ((zAG l0_3 x6_1).f4).length c212_4):=(zAE BK213.out 4).trans rfl
            have hcz49_5:wc.cell? ⟨gb213,5,none⟩=some (.int .i64 ((zAG l0_3 x6_1).f5)):=(zAE BK213.out 5).trans rfl
            have hfz49_0:=zAC BK213.out 0
            have hfz49_1:=zAC BK213.out 1
            have hfz49_2:=zAC BK213.out 2
            have hfz49_3:=zAC BK213.out 3
            have hfz49_4:=zAC BK213.out 4
            have hfz49_5:=zAC BK213.out 5
            go_wp2
            go_roundg kj15
            case measure=>have:=HK1.out;have:=HJ15.out;omega
            case rel=>exact ⟨(wrap64 ((wrap64 (x5_1 - t214))+1)),(wrap64 (x6_1+1)),(by first|rfl|(simp;done)|(simp [*];done)),(by first|rfl|(simp;done)|(simp [*];done)),H',⟨by have:=HK1.out;have:=HJ15.out;omega⟩,⟨by (with_reducible repeat (first|refine zAH ?_ _|refine zAJ ?_|refine zAI ?_ _));exact BK210.out⟩,⟨by repeat (first|(with_reducible first|exact HB.out|apply zAB|apply zAA|apply zAD|refine zAF ?_ GE210.out|refine zAF ?_ GE213.out)|exact HB.out)⟩⟩
      ·rw [if_neg c14] at H
       exact absurd H (by simp)
     ·rw [if_neg c13] at H
      have c13b0:decide (x6_1<(l0_3.length:Int))=false:=decide_eq_false c13
      clear c13
      by_cases c50:x5_1=1
      ·rw [if_pos c50] at H
       have c50b0:(x5_1 == 1)=true:=beq_iff_eq.mpr c50
       have c50b1:(x5_1 != 1)=false:=bne_eq_false_iff_eq.mpr c50
       clear c50
       simp only [Option.some.injEq,Prod.mk.injEq] at H
       obtain ⟨rfl,rfl⟩:=H
       have hcz51_0:wr.cell? ⟨gb210,0,none⟩=some (.string a0_0):=(zAE BK210.out 0).trans rfl
       have hcz51_1:wr.cell? ⟨gb210,1,none⟩=some (.slice A0_1 l0_1.length c0_1):=(zAE BK210.out 1).trans rfl
       have hcz51_2:wr.cell? ⟨gb210,2,none⟩=some (.int .i64 a0_2):=(zAE BK210.out 2).trans rfl
       have hcz51_3:wr.cell? ⟨gb210,3,none⟩=some (.slice A0_3 l0_3.length c0_3):=(zAE BK210.out 3).trans rfl
       have hfz51_0:=zAC BK210.out 0
       have hfz51_1:=zAC BK210.out 1
       have hfz51_2:=zAC BK210.out 2
       have hfz51_3:=zAC BK210.out 3
       go_wp2
       go_ret2
       exact ⟨by first|rfl|(simp [zAQ,zAP] <;> rfl)|(simp [*,zAQ,zAP] <;> rfl),by repeat (first|(with_reducible first|exact HB.out|apply zAB|apply zAA|apply zAD|refine zAF ?_ GE210.out)|exact HB.out)⟩
      ·rw [if_neg c50] at H
       have c50b0:(x5_1 == 1)=false:=beq_eq_false_iff_ne.mpr c50
       have c50b1:(x5_1 != 1)=true:=bne_iff_ne.mpr c50
       simp only [Option.some.injEq,Prod.mk.injEq] at H
       obtain ⟨rfl,rfl⟩:=H
       have hcz52_0:wr.cell? ⟨gb210,0,none⟩=some (.string a0_0):=(zAE BK210.out 0).trans rfl
       have hcz52_1:wr.cell? ⟨gb210,1,none⟩=some (.slice A0_1 l0_1.length c0_1):=(zAE BK210.out 1).trans rfl
       have hcz52_2:wr.cell? ⟨gb210,2,none⟩=some (.int .i64 a0_2):=(zAE BK210.out 2).trans rfl
       have hcz52_3:wr.cell? ⟨gb210,3,none⟩=some (.slice A0_3 l0_3.length c0_3):=(zAE BK210.out 3).trans rfl
       have hfz52_0:=zAC BK210.out 0
       have hfz52_1:=zAC BK210.out 1
       have hfz52_2:=zAC BK210.out 2
       have hfz52_3:=zAC BK210.out 3
       go_wp2
       go_ret2
       exact ⟨by first|rfl|(simp [zAQ,zAP] <;> rfl)|(simp [*,zAQ,zAP] <;> rfl),by repeat (first|(with_reducible first|exact HB.out|apply zAB|apply zAA|apply zAD|refine zAF ?_ GE210.out)|exact HB.out)⟩
 ·rw [if_neg c3] at H
  have c3b0:(t211 == 0)=false:=beq_eq_false_iff_ne.mpr c3
  have c3b1:(t211 != 0)=true:=bne_iff_ne.mpr c3
  simp only [Option.some.injEq,Prod.mk.injEq] at H
  obtain ⟨rfl,rfl⟩:=H
  go_enter Tryd.func17,Tryd.ntmps17
  go_wp2_with (first|((with_reducible refine zAk (N:=1) rfl ?_);(try (refine gate_guard (by rfl) ?_;dsimp only));refine zAh ?hg (N:=1) ?hd (cs:=#[.string a0_0,.slice A0_1 l0_1.length c0_1,.int .i64 a0_2,.slice A0_3 l0_3.length c0_3]) (t:=25) ?hr ?_;(case hd=>rfl);(case hg=>rfl);(case hr=>first|(go_simp;done)|(go_simp;rfl));intro gb210 hg w53 hbox hb;have n0_:=aK_ (zAM (by repeat (first|(with_reducible first|exact HB.out|apply zAB|apply zAA|apply zAD)|exact HB.out)) hb);have n1_:=aK_ (hbox);have n2_:=aK_ ((by rw [hg];exact (zAK (by repeat (first|(with_reducible first|exact HB.out|apply zAB|apply zAA|apply zAD)|exact HB.out))):w.heap.size≤gb210));have n3_:=aK_ ((by rw [hg];exact (zAK (by repeat (first|(with_reducible first|exact HB.out|apply zAB|apply zAA|apply zAD)|exact HB.out))):w.heap.size≤gb210));clear HB;have HB:=n0_;have BK210:=n1_;have GW210:=n2_;have GE210:=n3_;clear n0_ n1_ n2_ n3_;clear hb hbox hg;have hcz54_0:w53.cell? ⟨gb210,0,none⟩=some (.string a0_0):=(zAE BK210.out 0).trans rfl;have hcz54_1:w53.cell? ⟨gb210,1,none⟩=some (.slice A0_1 l0_1.length c0_1):=(zAE BK210.out 1).trans rfl;have hcz54_2:w53.cell? ⟨gb210,2,none⟩=some (.int .i64 a0_2):=(zAE BK210.out 2).trans rfl;have hcz54_3:w53.cell? ⟨gb210,3,none⟩=some (.slice A0_3 l0_3.length c0_3):=(zAE BK210.out 3).trans rfl;have hfz54_0:=zAC BK210.out 0;have hfz54_1:=zAC BK210.out 1;have hfz54_2:=zAC BK210.out 2;have hfz54_3:=zAC BK210.out 3)|((with_reducible refine zAf (f:=40) rfl ?_);refine goesL_ (some 10) rfl rfl Tryd.func40 (by kernel_rfl) rfl #[.agg #[.string a0_0,.slice A0_1 l0_1.length c0_1,.int .i64 a0_2,.slice A0_3 l0_3.length c0_3]] rfl (by (try simp only [List.map_toArray,List.map_cons,List.map_nil]);first|done|rfl|(simp only [List.length_drop,List.length_take];rfl)) ?_;(with_reducible refine (zAV.calls k a0_0 _ _ l0_1 a0_2 _ _ l0_3 t211 _ ?side1 ?side2 ?side3 ?side4 A2.out).mono ?_);(case side1=>repeat (first|exact (Kd.C_below HR0_1.out HB.out)|(with_reducible refine Kd.C_alloc ?_ _)|(with_reducible refine Kd.C_drewN ?_ _)|(with_reducible refine Kd.C_drew ?_)));(case side2=>exact HC0_1.out);(case side3=>repeat (first|exact (Kd.C_below HR0_3.out HB.out)|(with_reducible refine Kd.C_alloc ?_ _)|(with_reducible refine Kd.C_drewN ?_ _)|(with_reducible refine Kd.C_drew ?_)));(case side4=>exact HC0_3.out);rintro e w55 ⟨rfl,hb⟩;refine ⟨_,rfl,?_⟩;have n0_:=aK_ (zAb (g:=gb210) (o:=.cells #[.string a0_0,.slice A0_1 l0_1.length c0_1,.int .i64 a0_2,.slice A0_3 l0_3.length c0_3] 25 (0,0)) (by (with_reducible repeat (first|refine zAH ?_ _|refine zAJ ?_|refine zAI ?_ _));exact BK210.out) hb);have n1_:=aK_ (zAM (by repeat (first|(with_reducible first|exact HB.out|apply zAB|apply zAA|apply zAD|refine zAF ?_ GE210.out)|exact HB.out)) hb);clear BK210;clear HB;have BK210:=n0_;have HB:=n1_;clear n0_ n1_;(try clear hb);(try clear hb2);(try clear hk);(try clear hi)))
  go_ret2
  exact ⟨by first|rfl|(simp [zAQ,zAP] <;> rfl)|(simp [*,zAQ,zAP] <;> rfl),by repeat (first|(with_reducible first|exact HB.out|apply zAB|apply zAA|apply zAD|refine zAF ?_ GE210.out)|exact HB.out)⟩
end Go.Proofs.YthbnigjckjkmnaaDoor.S

namespace Go.Proofs.YthbnigjckjkmnaaDoor.S
open Go.RowKit Go.Proofs.YthbnigjckjkmnaaDoorW.PrintWords Go.Proofs.YthbnigjckjkmnaaDoorW.PrintLast Go.Proofs.YthbnigjckjkmnaaDoorW.PrintMore
attribute [local go_sem] max2_int min2_int max_two min_two max_three min_three max_four min_four
def zAa.l0:Nat→Int→Int→ByteArray→List (S47)→Int→List (S33)→Option (Int)
 |0,_,_,_,_,_,_=>none
 |k+1,x5,x6,x331000,x331001,x331002,x331003=>if 0≤x6 then (if x6<(x331003.length:Int) then ((zAL.f k ((zAG x331003 x6).f0) ((zAG x331003 x6).f1) ((zAG x331003 x6).f2) ((zAG x331003 x6).f3) ((zAG x331003 x6).f4) ((zAG x331003 x6).f5)).bind fun t332=>(if (wrap64 ((wrap64 (x5 - 1))+t332))=0 then (some x6) else (zAa.l0 k (wrap64 ((wrap64 (x5 - 1))+t332)) (wrap64 (x6 - 1)) x331000 x331001 x331002 x331003))) else (none)) else (none)
def zAa.f (k:Nat) (a0_0:ByteArray) (l0_1:List (S47)) (a0_2:Int) (l0_3:List (S33)) (a1:Int):Option (Int):=zAa.l0 k 1 a1 a0_0 l0_1 a0_2 l0_3
theorem zAa.mono_l:∀ k,(∀ y0 y1 y2 y3 y4 y5,LeO (zAa.l0 k y0 y1 y2 y3 y4 y5) (zAa.l0 (k+1) y0 y1 y2 y3 y4 y5))
 |0=>fun _ _ _ _ _ _ r h=>by simp [zAa.l0] at h
 |k+1=>by
  have ih0:=zAa.mono_l k
  ·intro y0 y1 y2 y3 y4 y5
   unfold zAa.l0
   repeat' first
   |(with_reducible exact ih0 _ _ _ _ _ _)
   |(with_reducible exact zAL.mono _ _ _ _ _ _ _)
   |(with_reducible exact LeO.refl _)
   |(with_reducible exact LeO.none _)
   |(with_reducible refine LeO.ite ?_ ?_)
   |(with_reducible refine LeO.bind ?_ (fun _=>?_))
   |exact ih0 _ _ _ _ _ _
   |exact zAL.mono _ _ _ _ _ _ _
   |exact LeO.none _
   |refine LeO.ite ?_ ?_
   |refine LeO.bind ?_ (fun _=>?_)
theorem zAa.mono:∀ a0 a1 a2 a3 a4 k,LeO (zAa.f k a0 a1 a2 a3 a4) (zAa.f (k+1) a0 a1 a2 a3 a4):=by
 intro a0 a1 a2 a3 a4 k
 have ih0:=zAa.mono_l k
 unfold zAa.f
 repeat' first
   |(with_reducible exact ih0 _ _ _ _ _ _)
   |(with_reducible exact zAL.mono _ _ _ _ _ _ _)
   |(with_reducible exact LeO.refl _)
   |(with_reducible exact LeO.none _)
   |(with_reducible refine LeO.ite ?_ ?_)
   |(with_reducible refine LeO.bind ?_ (fun _=>?_))
   |exact ih0 _ _ _ _ _ _
   |exact zAL.mono _ _ _ _ _ _ _
   |exact LeO.none _
   |refine LeO.ite ?_ ?_
   |refine LeO.bind ?_ (fun _=>?_)
set_option maxHeartbeats 8000000 in
set_option maxRecDepth 100000 in
theorem zAa.calls (k:Nat) (a0_0:ByteArray) (A0_1:Option Addr) (c0_1:Nat) (l0_1:List (S47)) (a0_2:Int) (A0_3:Option Addr) (c0_3:Nat) (l0_3:List (S33)) (a1:Int) (r:Int) (w:World) (hr0_1:Kd.C k47 w A0_1 l0_1.length l0_1) (hc0_1:l0_1.length≤c0_1) (hr0_3:Kd.C k33 w A0_3 l0_3.length l0_3) (hc0_3:l0_3.length≤c0_3) (h:zAa.f k a0_0 l0_1 a0_2 l0_3 a1=some r) :
  Calls Tryd.prog 50 #[.agg #[.string a0_0,.slice A0_1 l0_1.length c0_1,.int .i64 a0_2,.slice A0_3 l0_3.length c0_3],.int .i64 a1] w fun e w'=>e = .returned (.int .i64 r)∧Below w.heap.size w w':=by
 have hu25:=Tryd.underlying25
 have hu33:=Tryd.underlying33
 have HR0_1:=aK_ hr0_1
 have HC0_1:=aK_ hc0_1
 clear hr0_1 hc0_1
 have HR0_3:=aK_ hr0_3
 have HC0_3:=aK_ hc0_3
 clear hr0_3 hc0_3
 have HB:=aK_ (Below.refl w.heap.size w)
 have H:(zAa.l0 k 1 a1 a0_0 l0_1 a0_2 l0_3)=some r:=h
 clear h
 have H':=aK_ H
 clear H
 go_enter Tryd.func50,Tryd.ntmps50
 go_wp2_with (first|((with_reducible refine zAk (N:=2) rfl ?_);refine zAh ?hg (N:=2) ?hd (cs:=#[.string a0_0,.slice A0_1 l0_1.length c0_1,.int .i64 a0_2,.slice A0_3 l0_3.length c0_3]) (t:=25) ?hr ?_;(case hd=>rfl);(case hg=>rfl);(case hr=>first|(go_simp;done)|(go_simp;rfl));intro gb330 hg w3 hbox hb;have n0_:=aK_ (zAM (by repeat (first|(with_reducible first|exact HB.out|apply zAB|apply zAA|apply zAD)|exact HB.out)) hb);have n1_:=aK_ (hbox);have n2_:=aK_ ((by rw [hg];exact (zAK (by repeat (first|(with_reducible first|exact HB.out|apply zAB|apply zAA|apply zAD)|exact HB.out))):w.heap.size≤gb330));have n3_:=aK_ ((by rw [hg];exact (zAK (by repeat (first|(with_reducible first|exact HB.out|apply zAB|apply zAA|apply zAD)|exact HB.out))):w.heap.size≤gb330));clear HB;have HB:=n0_;have BK330:=n1_;have GW330:=n2_;have GE330:=n3_;clear n0_ n1_ n2_ n3_;clear hb hbox hg))
 (try simp only [Act.put,List.setIfInBounds_toArray,List.set_cons_zero,List.set_cons_succ])
 go_loopg [5,6] k (fun kq v5 v6 w'=>∃ (x5_1:Int) (x6_1:Int),v5 = .int .i64 x5_1∧v6 = .int .i64 x6_1∧zAg (zAa.l0 kq x5_1 x6_1 a0_0 l0_1 a0_2 l0_3=some r)∧zAg (kq≤k)∧zAg (w'.heap[gb330]?=some (.cells #[.string a0_0,(.slice A0_1 l0_1.length c0_1),.int .i64 a0_2,(.slice A0_3 l0_3.length c0_3)] 25 (0,0)))∧zAg (Below w.heap.size w w'))
 case atStart=>exact ⟨(1),(a1),(by first|rfl|(simp;done)|(simp [*];done)),(by first|rfl|(simp;done)|(simp [*];done)),H',⟨Nat.le_refl _⟩,⟨by (with_reducible repeat (first|refine zAH ?_ _|refine zAJ ?_|refine zAI ?_ _));exact BK330.out⟩,⟨by repeat (first|(with_reducible first|exact HB.out|apply zAB|apply zAA|apply zAD|refine zAF ?_ GE330.out)|exact HB.out)⟩⟩
 case round =>
  clear H'
  try clear p2
  obtain ⟨x5_1,x6_1,rfl,rfl,HA,HK1,BK330,HB⟩:=hrel
  cases gk with
  |zero=>exact absurd HA.out (by simp [zAa.l0])
  |succ k1 =>
   have H:=HA.out
   clear HA
   simp only [zAa.l0] at H
   by_cases c4:0≤x6_1
   ·rw [if_pos c4] at H
    have c4b0:decide (0≤x6_1)=true:=decide_eq_true c4
    clear c4
    by_cases c5:x6_1<(l0_3.length:Int)
    ·rw [if_pos c5] at H
     have c5b0:decide (x6_1<(l0_3.length:Int))=true:=decide_eq_true c5
     clear c5
     replace H:=Option.bind_eq_some_iff.mp H
     obtain ⟨t332,A60,H⟩:=H
     replace H:(if (wrap64 ((wrap64 (x5_1 - 1))+t332))=0 then (some x6_1) else (zAa.l0 k1 (wrap64 ((wrap64 (x5_1 - 1))+t332)) (wrap64 (x6_1 - 1)) a0_0 l0_1 a0_2 l0_3))=some r:=H
     have A6:=aK_ A60
     clear A60
     by_cases c7:(wrap64 ((wrap64 (x5_1 - 1))+t332))=0
     ·rw [if_pos c7] at H
      have c7b0:((wrap64 ((wrap64 (x5_1 - 1))+t332)) == 0)=true:=beq_iff_eq.mpr c7
      have c7b1:((wrap64 ((wrap64 (x5_1 - 1))+t332)) != 0)=false:=bne_eq_false_iff_eq.mpr c7
      clear c7
      obtain rfl:=Option.some.inj H
      have hcz8_0:wr.cell? ⟨gb330,0,none⟩=some (.string a0_0):=(zAE BK330.out 0).trans rfl
      have hcz8_1:wr.cell? ⟨gb330,1,none⟩=some (.slice A0_1 l0_1.length c0_1):=(zAE BK330.out 1).trans rfl
      have hcz8_2:wr.cell? ⟨gb330,2,none⟩=some (.int .i64 a0_2):=(zAE BK330.out 2).trans rfl
      have hcz8_3:wr.cell? ⟨gb330,3,none⟩=some (.slice A0_3 l0_3.length c0_3):=(zAE BK330.out 3).trans rfl
      have hfz8_0:=zAC BK330.out 0
      have hfz8_1:=zAC BK330.out 1
      have hfz8_2:=zAC BK330.out 2
      have hfz8_3:=zAC BK330.out 3
      have p331:0≤(x6_1:Int):=of_decide_eq_true (by first|(with_reducible assumption)|assumption)
      have q331:x6_1<(l0_3.length:Int):=of_decide_eq_true (by first|(with_reducible assumption)|assumption)
      obtain ⟨ad331,A331_4,c331_4,e331,hx331_0,hx331_1,hx331_2,hx331_3,hx331_4,hx331_5,hl331_4,hi331_4⟩:=at_T33 HR0_3.out x6_1 p331 q331
      cases e331
      replace hx331_0:=(HB.out.cell (World.block_lt_of_cell? w _ hx331_0)).trans hx331_0
      replace hx331_1:=(HB.out.cell (World.block_lt_of_cell? w _ hx331_1)).trans hx331_1
      replace hx331_2:=(HB.out.cell (World.block_lt_of_cell? w _ hx331_2)).trans hx331_2
      replace hx331_3:=(HB.out.cell (World.block_lt_of_cell? w _ hx331_3)).trans hx331_3
      replace hx331_4:=(HB.out.cell (World.block_lt_of_cell? w _ hx331_4)).trans hx331_4
      replace hx331_5:=(HB.out.cell (World.block_lt_of_cell? w _ hx331_5)).trans hx331_5
      have HR331_4:=aK_ hi331_4
      have HC331_4:=aK_ hl331_4
      clear hi331_4 hl331_4
      replace p331:=eq_true p331
      replace q331:=eq_true q331
      go_wp2_with (first|((with_reducible refine zAf (f:=24) rfl ?_);refine goesL_ (some 15) rfl rfl Tryd.func24 (by kernel_rfl) rfl #[.agg #[.int .i64 ((zAG l0_3 x6_1).f0),.int .i64 ((zAG l0_3 x6_1).f1),.int .i64 ((zAG l0_3 x6_1).f2),.int .i64 ((zAG l0_3 x6_1).f3),.slice A331_4 ((zAG l0_3 x6_1).f4).length c331_4,.int .i64 ((zAG l0_3 x6_1).f5)]] rfl (by (try simp only [List.map_toArray,List.map_cons,List.map_nil]);first|done|rfl|(simp only [List.length_drop,List.length_take];rfl)) ?_;(with_reducible refine (zAL.calls k1 ((zAG l0_3 x6_1).f0) ((zAG l0_3 x6_1).f1) ((zAG l0_3 x6_1).f2) ((zAG l0_3 x6_1).f3) _ _ ((zAG l0_3 x6_1).f4) ((zAG l0_3 x6_1).f5) t332 _ ?side1 ?side2 A6.out).mono ?_);(case side1=>repeat (first|exact (Kd.C_below HR331_4.out HB.out)|(with_reducible refine Kd.C_alloc ?_ _)|(with_reducible refine Kd.C_drewN ?_ _)|(with_reducible refine Kd.C_drew ?_)));(case side2=>exact HC331_4.out);rintro e w9 ⟨rfl,hb⟩;refine ⟨_,rfl,?_⟩;have n0_:=aK_ (zAb (g:=gb330) (o:=.cells #[.string a0_0,.slice A0_1 l0_1.length c0_1,.int .i64 a0_2,.slice (some ad331) l0_3.length c0_3] 25 (0,0)) (by (with_reducible repeat (first|refine zAH ?_ _|refine zAJ ?_|refine zAI ?_ _));exact BK330.out) hb);have n1_:=aK_ (zAM (by repeat (first|(with_reducible first|exact HB.out|apply zAB|apply zAA|apply zAD|refine zAF ?_ GE330.out)|exact HB.out)) hb);clear BK330;clear HB;have BK330:=n0_;have HB:=n1_;clear n0_ n1_;(try clear hb);(try clear hb2);(try clear hk);(try clear hi)))
      go_ret
      exact ⟨by first|rfl|(simp [zAQ,zAP] <;> rfl)|(simp [*,zAQ,zAP] <;> rfl),by repeat (first|(with_reducible first|exact HB.out|apply zAB|apply zAA|apply zAD|refine zAF ?_ GE330.out)|exact HB.out)⟩
     ·rw [if_neg c7] at H
      have c7b0:((wrap64 ((wrap64 (x5_1 - 1))+t332)) == 0)=false:=beq_eq_false_iff_ne.mpr c7
      have c7b1:((wrap64 ((wrap64 (x5_1 - 1))+t332)) != 0)=true:=bne_iff_ne.mpr c7
      have H':=aK_ H
      clear H
      have hcz10_0:wr.cell? ⟨gb330,0,none⟩=some (.string a0_0):=(zAE BK330.out 0).trans rfl
      have hcz10_1:wr.cell? ⟨gb330,1,none⟩=some (.slice A0_1 l0_1.length c0_1):=(zAE BK330.out 1).trans rfl
      have hcz10_2:wr.cell? ⟨gb330,2,none⟩=some (.int .i64 a0_2):=(zAE BK330.out 2).trans rfl
      have hcz10_3:wr.cell? ⟨gb330,3,none⟩=some (.slice A0_3 l0_3.length c0_3):=(zAE BK330.out 3).trans rfl
      have hfz10_0:=zAC BK330.out 0
      have hfz10_1:=zAC BK330.out 1
      have hfz10_2:=zAC BK330.out 2
      have hfz10_3:=zAC BK330.out 3
      have p331:0≤(x6_1:Int):=of_decide_eq_true (by first|(with_reducible assumption)|assumption)
      have q331:x6_1<(l0_3.length:Int):=of_decide_eq_true (by first|(with_reducible assumption)|assumption)
      obtain ⟨ad331,A331_4,c331_4,e331,hx331_0,hx331_1,hx331_2,hx331_3,hx331_4,hx331_5,hl331_4,hi331_4⟩:=at_T33 HR0_3.out x6_1 p331 q331
      cases e331
      replace hx331_0:=(HB.out.cell (World.block_lt_of_cell? w _ hx331_0)).trans hx331_0
      replace hx331_1:=(HB.out.cell (World.block_lt_of_cell? w _ hx331_1)).trans hx331_1
      replace hx331_2:=(HB.out.cell (World.block_lt_of_cell? w _ hx331_2)).trans hx331_2
      replace hx331_3:=(HB.out.cell (World.block_lt_of_cell? w _ hx331_3)).trans hx331_3
      replace hx331_4:=(HB.out.cell (World.block_lt_of_cell? w _ hx331_4)).trans hx331_4
      replace hx331_5:=(HB.out.cell (World.block_lt_of_cell? w _ hx331_5)).trans hx331_5
      have HR331_4:=aK_ hi331_4
      have HC331_4:=aK_ hl331_4
      clear hi331_4 hl331_4
      replace p331:=eq_true p331
      replace q331:=eq_true q331
      go_wp2_with (first|((with_reducible refine zAf (f:=24) rfl ?_);refine goesL_ (some 15) rfl rfl Tryd.func24 (by kernel_rfl) rfl #[.agg #[.int .i64 ((zAG l0_3 x6_1).f0),.int .i64 ((zAG l0_3 x6_1).f1),.int .i64 ((zAG l0_3 x6_1).f2),.int .i64 ((zAG l0_3 x6_1).f3),.slice A331_4 ((zAG l0_3 x6_1).f4).length c331_4,.int .i64 ((zAG l0_3 x6_1).f5)]] rfl (by (try simp only [List.map_toArray,List.map_cons,List.map_nil]);first|done|rfl|(simp only [List.length_drop,List.length_take];rfl)) ?_;(with_reducible refine (zAL.calls k1 ((zAG l0_3 x6_1).f0) ((zAG l0_3 x6_1).f1) ((zAG l0_3 x6_1).f2) ((zAG l0_3 x6_1).f3) _ _ ((zAG l0_3 x6_1).f4) ((zAG l0_3 x6_1).f5) t332 _ ?side1 ?side2 A6.out).mono ?_);(case side1=>repeat (first|exact (Kd.C_below HR331_4.out HB.out)|(with_reducible refine Kd.C_alloc ?_ _)|(with_reducible refine Kd.C_drewN ?_ _)|(with_reducible refine Kd.C_drew ?_)));(case side2=>exact HC331_4.out);rintro e w11 ⟨rfl,hb⟩;refine ⟨_,rfl,?_⟩;have n0_:=aK_ (zAb (g:=gb330) (o:=.cells #[.string a0_0,.slice A0_1 l0_1.length c0_1,.int .i64 a0_2,.slice (some ad331) l0_3.length c0_3] 25 (0,0)) (by (with_reducible repeat (first|refine zAH ?_ _|refine zAJ ?_|refine zAI ?_ _));exact BK330.out) hb);have n1_:=aK_ (zAM (by repeat (first|(with_reducible first|exact HB.out|apply zAB|apply zAA|apply zAD|refine zAF ?_ GE330.out)|exact HB.out)) hb);clear BK330;clear HB;have BK330:=n0_;have HB:=n1_;clear n0_ n1_;(try clear hb);(try clear hb2);(try clear hk);(try clear hi)))
      go_roundg k1
      case measure=>have:=HK1.out;omega
      case rel=>exact ⟨(wrap64 ((wrap64 (x5_1 - 1))+t332)),(wrap64 (x6_1 - 1)),(by first|rfl|(simp;done)|(simp [*];done)),(by first|rfl|(simp;done)|(simp [*];done)),H',⟨by have:=HK1.out;omega⟩,⟨by (with_reducible repeat (first|refine zAH ?_ _|refine zAJ ?_|refine zAI ?_ _));exact BK330.out⟩,⟨by repeat (first|(with_reducible first|exact HB.out|apply zAB|apply zAA|apply zAD|refine zAF ?_ GE330.out)|exact HB.out)⟩⟩
    ·rw [if_neg c5] at H
     exact absurd H (by simp)
   ·rw [if_neg c4] at H
    exact absurd H (by simp)
end Go.Proofs.YthbnigjckjkmnaaDoor.S

namespace Go.Proofs.YthbnigjckjkmnaaDoor.S
open Go.RowKit Go.Proofs.YthbnigjckjkmnaaDoorW.PrintWords Go.Proofs.YthbnigjckjkmnaaDoorW.PrintLast Go.Proofs.YthbnigjckjkmnaaDoorW.PrintMore
attribute [local go_sem] max2_int min2_int max_two min_two max_three min_three max_four min_four
def zAe.l0:Nat→List Int→Int→ByteArray→List (S47)→Int→List (S33)→Option (List Int × Int)
 |0,_,_,_,_,_,_=>none
 |k+1,x6,x7,x455000,x455001,x455002,x455003=>if x7<(x455003.length:Int) then ((zAa.f k x455000 x455001 x455002 x455003 x7).bind fun t457=>(if x6.length<17592186044416 then (zAe.l0 k (x6 ++ [t457]) (wrap64 (x7+1)) x455000 x455001 x455002 x455003) else (none))) else (some (x6,0))
def zAe.f (k:Nat) (a0_0:ByteArray) (l0_1:List (S47)) (a0_2:Int) (l0_3:List (S33)):Option (List Int × Int):=(zAN.f k a0_0 l0_1 a0_2 l0_3).bind fun bt455=>(if bt455.2=0 then (zAe.l0 k ([]:List Int) 0 a0_0 l0_1 a0_2 l0_3) else (some (([]:List Int),bt455.2)))
theorem zAe.mono_l:∀ k,(∀ y0 y1 y2 y3 y4 y5,LeO (zAe.l0 k y0 y1 y2 y3 y4 y5) (zAe.l0 (k+1) y0 y1 y2 y3 y4 y5))
 |0=>fun _ _ _ _ _ _ r h=>by simp [zAe.l0] at h
 |k+1=>by
  have ih0:=zAe.mono_l k
  ·intro y0 y1 y2 y3 y4 y5
   unfold zAe.l0
   repeat' first
   |(with_reducible exact ih0 _ _ _ _ _ _)
   |(with_reducible exact zAN.mono _ _ _ _ _)
   |(with_reducible exact zAa.mono _ _ _ _ _ _)
   |(with_reducible exact LeO.refl _)
   |(with_reducible exact LeO.none _)
   |(with_reducible refine LeO.ite ?_ ?_)
   |(with_reducible refine LeO.bind ?_ (fun _=>?_))
   |exact ih0 _ _ _ _ _ _
   |exact zAN.mono _ _ _ _ _
   |exact zAa.mono _ _ _ _ _ _
   |exact LeO.none _
   |refine LeO.ite ?_ ?_
   |refine LeO.bind ?_ (fun _=>?_)
theorem zAe.mono:∀ a0 a1 a2 a3 k,LeO (zAe.f k a0 a1 a2 a3) (zAe.f (k+1) a0 a1 a2 a3):=by
 intro a0 a1 a2 a3 k
 have ih0:=zAe.mono_l k
 unfold zAe.f
 repeat' first
   |(with_reducible exact ih0 _ _ _ _ _ _)
   |(with_reducible exact zAN.mono _ _ _ _ _)
   |(with_reducible exact zAa.mono _ _ _ _ _ _)
   |(with_reducible exact LeO.refl _)
   |(with_reducible exact LeO.none _)
   |(with_reducible refine LeO.ite ?_ ?_)
   |(with_reducible refine LeO.bind ?_ (fun _=>?_))
   |exact ih0 _ _ _ _ _ _
   |exact zAN.mono _ _ _ _ _
   |exact zAa.mono _ _ _ _ _ _
   |exact LeO.none _
   |refine LeO.ite ?_ ?_
   |refine LeO.bind ?_ (fun _=>?_)
set_option maxHeartbeats 8000000 in
set_option maxRecDepth 100000 in
theorem zAe.calls (k:Nat) (a0_0:ByteArray) (A0_1:Option Addr) (c0_1:Nat) (l0_1:List (S47)) (a0_2:Int) (A0_3:Option Addr) (c0_3:Nat) (l0_3:List (S33)) (r1:List Int) (r2:Int) (w:World) (hr0_1:Kd.C k47 w A0_1 l0_1.length l0_1) (hc0_1:l0_1.length≤c0_1) (hr0_3:Kd.C k33 w A0_3 l0_3.length l0_3) (hc0_3:l0_3.length≤c0_3) (h:zAe.f k a0_0 l0_1 a0_2 l0_3=some (r1,r2)) :
  Calls Tryd.prog 25 #[.agg #[.string a0_0,.slice A0_1 l0_1.length c0_1,.int .i64 a0_2,.slice A0_3 l0_3.length c0_3]] w fun e w'=>∃ v0_:Value,e = .returned (.tuple #[v0_,.int .i64 r2])∧Kd.R (Kd.int .i64) 3 w' w.heap.size (fun _=>True) v0_ r1∧Below w.heap.size w w':=by
 have hu25:=Tryd.underlying25
 have HR0_1:=aK_ hr0_1
 have HC0_1:=aK_ hc0_1
 clear hr0_1 hc0_1
 have HR0_3:=aK_ hr0_3
 have HC0_3:=aK_ hc0_3
 clear hr0_3 hc0_3
 have HB:=aK_ (Below.refl w.heap.size w)
 have H:((zAN.f k a0_0 l0_1 a0_2 l0_3).bind fun bt455=>(if bt455.2=0 then (zAe.l0 k ([]:List Int) 0 a0_0 l0_1 a0_2 l0_3) else (some (([]:List Int),bt455.2))))=some (r1,r2):=h
 clear h
 replace H:=Option.bind_eq_some_iff.mp H
 obtain ⟨⟨t455,t456⟩,A20,H⟩:=H
 replace H:(if t456=0 then (zAe.l0 k ([]:List Int) 0 a0_0 l0_1 a0_2 l0_3) else (some (([]:List Int),t456)))=some (r1,r2):=H
 have A2:=aK_ A20
 clear A20
 by_cases c3:t456=0
 ·rw [if_pos c3] at H
  have c3b0:(t456 == 0)=true:=beq_iff_eq.mpr c3
  have c3b1:(t456 != 0)=false:=bne_eq_false_iff_eq.mpr c3
  clear c3
  have H':=aK_ H
  clear H
  go_enter Tryd.func25,Tryd.ntmps25
  go_wp2_with (first|((with_reducible refine zAk (N:=1) rfl ?_);refine zAh ?hg (N:=1) ?hd (cs:=#[.string a0_0,.slice A0_1 l0_1.length c0_1,.int .i64 a0_2,.slice A0_3 l0_3.length c0_3]) (t:=25) ?hr ?_;(case hd=>rfl);(case hg=>rfl);(case hr=>first|(go_simp;done)|(go_simp;rfl));intro gb454 hg w4 hbox hb;have n0_:=aK_ (zAM (by repeat (first|(with_reducible first|exact HB.out|apply zAB|apply zAA|apply zAD)|exact HB.out)) hb);have n1_:=aK_ (hbox);have n2_:=aK_ ((by rw [hg];exact (zAK (by repeat (first|(with_reducible first|exact HB.out|apply zAB|apply zAA|apply zAD)|exact HB.out))):w.heap.size≤gb454));have n3_:=aK_ ((by rw [hg];exact (zAK (by repeat (first|(with_reducible first|exact HB.out|apply zAB|apply zAA|apply zAD)|exact HB.out))):w.heap.size≤gb454));clear HB;have HB:=n0_;have BK454:=n1_;have GW454:=n2_;have GE454:=n3_;clear n0_ n1_ n2_ n3_;clear hb hbox hg;have hcz5_0:w4.cell? ⟨gb454,0,none⟩=some (.string a0_0):=(zAE BK454.out 0).trans rfl;have hcz5_1:w4.cell? ⟨gb454,1,none⟩=some (.slice A0_1 l0_1.length c0_1):=(zAE BK454.out 1).trans rfl;have hcz5_2:w4.cell? ⟨gb454,2,none⟩=some (.int .i64 a0_2):=(zAE BK454.out 2).trans rfl;have hcz5_3:w4.cell? ⟨gb454,3,none⟩=some (.slice A0_3 l0_3.length c0_3):=(zAE BK454.out 3).trans rfl;have hfz5_0:=zAC BK454.out 0;have hfz5_1:=zAC BK454.out 1;have hfz5_2:=zAC BK454.out 2;have hfz5_3:=zAC BK454.out 3)|((with_reducible refine zAf (f:=17) rfl ?_);refine goesL_ (some 10) rfl rfl Tryd.func17 (by kernel_rfl) rfl #[.agg #[.string a0_0,.slice A0_1 l0_1.length c0_1,.int .i64 a0_2,.slice A0_3 l0_3.length c0_3]] rfl (by (try simp only [List.map_toArray,List.map_cons,List.map_nil]);first|done|rfl|(simp only [List.length_drop,List.length_take];rfl)) ?_;(with_reducible refine (zAN.calls k a0_0 _ _ l0_1 a0_2 _ _ l0_3 t455 t456 _ ?side1 ?side2 ?side3 ?side4 A2.out).mono ?_);(case side1=>repeat (first|exact (Kd.C_below HR0_1.out HB.out)|(with_reducible refine Kd.C_alloc ?_ _)|(with_reducible refine Kd.C_drewN ?_ _)|(with_reducible refine Kd.C_drew ?_)));(case side2=>exact HC0_1.out);(case side3=>repeat (first|exact (Kd.C_below HR0_3.out HB.out)|(with_reducible refine Kd.C_alloc ?_ _)|(with_reducible refine Kd.C_drewN ?_ _)|(with_reducible refine Kd.C_drew ?_)));(case side4=>exact HC0_3.out);rintro e w6 ⟨rfl,hb⟩;refine ⟨_,rfl,?_⟩;have n0_:=aK_ (zAb (g:=gb454) (o:=.cells #[.string a0_0,.slice A0_1 l0_1.length c0_1,.int .i64 a0_2,.slice A0_3 l0_3.length c0_3] 25 (0,0)) (by (with_reducible repeat (first|refine zAH ?_ _|refine zAJ ?_|refine zAI ?_ _));exact BK454.out) hb);have n1_:=aK_ (zAM (by repeat (first|(with_reducible first|exact HB.out|apply zAB|apply zAA|apply zAD|refine zAF ?_ GE454.out)|exact HB.out)) hb);clear BK454;clear HB;have BK454:=n0_;have HB:=n1_;clear n0_ n1_;(try clear hb);(try clear hb2);(try clear hk);(try clear hi)))
  (try simp only [Act.put,List.setIfInBounds_toArray,List.set_cons_zero,List.set_cons_succ])
  go_loopg [6,7] k (fun kq v6 v7 w'=>∃ (x6_1:List Int) (x7_1:Int),v7 = .int .i64 x7_1∧zAg (zAe.l0 kq x6_1 x7_1 a0_0 l0_1 a0_2 l0_3=some (r1,r2))∧zAg (kq≤k)∧zAg (Kd.R (Kd.int .i64) 3 w' w.heap.size (fun _=>True) v6 x6_1)∧zAg (w'.heap[gb454]?=some (.cells #[.string a0_0,(.slice A0_1 l0_1.length c0_1),.int .i64 a0_2,(.slice A0_3 l0_3.length c0_3)] 25 (0,0)))∧zAg (Below w.heap.size w w'))
  case atStart=>exact ⟨(([]:List Int)),(0),(by first|rfl|(simp;done)|(simp [*];done)),H',⟨Nat.le_refl _⟩,⟨by first|exact Kd.R_nil _ _ _ _ _|exact Kd.N_nil _ _ _ _ _|exact Kd.V_nil _ _ _ _ _|exact Kd.Q_nil _ _ _ _ _|exact Kd.S_nil _ _ _ _ _⟩,⟨by (with_reducible repeat (first|refine zAH ?_ _|refine zAJ ?_|refine zAI ?_ _));exact BK454.out⟩,⟨by repeat (first|(with_reducible first|exact HB.out|apply zAB|apply zAA|apply zAD|refine zAF ?_ GE454.out)|exact HB.out)⟩⟩
  case round =>
   clear H'
   try clear c1
   try clear c2
   try clear p2
   try clear c3
   try clear c3b0
   try clear c3b1
   try clear hcz5_0
   try clear hcz5_1
   try clear hcz5_2
   try clear hcz5_3
   try clear hfz5_0
   try clear hfz5_1
   try clear hfz5_2
   try clear hfz5_3
   obtain ⟨x6_1,x7_1,rfl,HA,HK1,HO_6,BK454,HB⟩:=hrel
   cases gk with
   |zero=>exact absurd HA.out (by simp [zAe.l0])
   |succ k1 =>
    have H:=HA.out
    clear HA
    simp only [zAe.l0] at H
    by_cases c7:x7_1<(l0_3.length:Int)
    ·rw [if_pos c7] at H
     have c7b0:decide (x7_1<(l0_3.length:Int))=true:=decide_eq_true c7
     clear c7
     replace H:=Option.bind_eq_some_iff.mp H
     obtain ⟨t457,A80,H⟩:=H
     replace H:(if x6_1.length<17592186044416 then (zAe.l0 k1 (x6_1 ++ [t457]) (wrap64 (x7_1+1)) a0_0 l0_1 a0_2 l0_3) else (none))=some (r1,r2):=H
     have A8:=aK_ A80
     clear A80
     by_cases c9:x6_1.length<17592186044416
     ·rw [if_pos c9] at H
      have LMc9:=aK_ c9
      clear c9
      obtain ⟨y458,hy458⟩:∃ y_:List Int,y_=(x6_1 ++ [t457]):=⟨_,rfl⟩
      replace H:(zAe.l0 k1 y458 (wrap64 (x7_1+1)) a0_0 l0_1 a0_2 l0_3)=some (r1,r2):=by first|(rw [hy458];with_reducible exact H)|(have H2_:=(Option.bind_some _ _).symm.trans H;rw [hy458];with_reducible exact H2_)|(have H2_:=(Option.bind_some _ _).symm.trans H;with_reducible exact H2_)|with_reducible exact H|(rw [hy458];exact H)|exact H
      have Ny458:=aK_ hy458
      clear hy458
      have H':=aK_ H
      clear H
      have hcz10_0:wr.cell? ⟨gb454,0,none⟩=some (.string a0_0):=(zAE BK454.out 0).trans rfl
      have hcz10_1:wr.cell? ⟨gb454,1,none⟩=some (.slice A0_1 l0_1.length c0_1):=(zAE BK454.out 1).trans rfl
      have hcz10_2:wr.cell? ⟨gb454,2,none⟩=some (.int .i64 a0_2):=(zAE BK454.out 2).trans rfl
      have hcz10_3:wr.cell? ⟨gb454,3,none⟩=some (.slice A0_3 l0_3.length c0_3):=(zAE BK454.out 3).trans rfl
      have hfz10_0:=zAC BK454.out 0
      have hfz10_1:=zAC BK454.out 1
      have hfz10_2:=zAC BK454.out 2
      have hfz10_3:=zAC BK454.out 3
      go_wp2_with (first|((with_reducible refine zAf (f:=50) rfl ?_);refine goesL_ (some 26) rfl rfl Tryd.func50 (by kernel_rfl) rfl #[.agg #[.string a0_0,.slice A0_1 l0_1.length c0_1,.int .i64 a0_2,.slice A0_3 l0_3.length c0_3],.int .i64 x7_1] rfl (by (try simp only [List.map_toArray,List.map_cons,List.map_nil]);first|done|rfl|(simp only [List.length_drop,List.length_take];rfl)) ?_;(with_reducible refine (zAa.calls k1 a0_0 _ _ l0_1 a0_2 _ _ l0_3 x7_1 t457 _ ?side1 ?side2 ?side3 ?side4 A8.out).mono ?_);(case side1=>repeat (first|exact (Kd.C_below HR0_1.out HB.out)|(with_reducible refine Kd.C_alloc ?_ _)|(with_reducible refine Kd.C_drewN ?_ _)|(with_reducible refine Kd.C_drew ?_)));(case side2=>exact HC0_1.out);(case side3=>repeat (first|exact (Kd.C_below HR0_3.out HB.out)|(with_reducible refine Kd.C_alloc ?_ _)|(with_reducible refine Kd.C_drewN ?_ _)|(with_reducible refine Kd.C_drew ?_)));(case side4=>exact HC0_3.out);rintro e w11 ⟨rfl,hb⟩;refine ⟨_,rfl,?_⟩;have n0_:=aK_ (Kd.R_below (by (with_reducible repeat (first|apply Kd.R_alloc|apply Kd.R_drewN|apply Kd.R_drew));exact HO_6.out) hb);have n1_:=aK_ (zAb (g:=gb454) (o:=.cells #[.string a0_0,.slice A0_1 l0_1.length c0_1,.int .i64 a0_2,.slice A0_3 l0_3.length c0_3] 25 (0,0)) (by (with_reducible repeat (first|refine zAH ?_ _|refine zAJ ?_|refine zAI ?_ _));exact BK454.out) hb);have n2_:=aK_ (zAM (by repeat (first|(with_reducible first|exact HB.out|apply zAB|apply zAA|apply zAD|refine zAF ?_ GE454.out)|exact HB.out)) hb);clear HO_6;clear BK454;clear HB;have HO_6:=n0_;have BK454:=n1_;have HB:=n2_;clear n0_ n1_ n2_;(try clear hb);(try clear hb2);(try clear hk);(try clear hi))|((with_reducible refine gate_builtin (b:=.append) (xs:=#[.tmp 23,.tmp 27]) rfl ?_);at_builtin;refine Kd.R_append (Kd.int .i64) (w0:=w) w.heap.size rfl (.tmp 23) (.tmp 27) 36 3 (.int .i64 0) 8 rfl Tryd.underlying36 info3 rfl (by decide) (by omega) u6 x6_1 t457 [.int .i64 t457] (fun _=>True) (fun _=>False) rfl rfl ?aP (fun _ hk=>hk.elim) ?aF ?aO ?aB ?aS ?aL ?_;(case aP=>exact rfl);(case aB=>exact (by repeat (first|(with_reducible first|exact HB.out|apply zAB|apply zAA|apply zAD|refine zAF ?_ GE454.out)|exact HB.out)));(case aF=>exact (fun _ _=>trivial));(case aO=>exact (by (with_reducible repeat (first|apply Kd.R_alloc|apply Kd.R_drewN|apply Kd.R_drew));exact HO_6.out));(case aS=>exact (zAK (by repeat (first|(with_reducible first|exact HB.out|apply zAB|apply zAA|apply zAD|refine zAF ?_ GE454.out)|exact HB.out))));(case aL=>have:=LMc9.out;omega);intro v459 w12 ho hb hg hat;rw [← Ny458.out] at ho;have n0_:=aK_ (blk_grown (g:=gb454) (o:=.cells #[.string a0_0,.slice A0_1 l0_1.length c0_1,.int .i64 a0_2,.slice A0_3 l0_3.length c0_3] 25 (0,0)) (by (with_reducible repeat (first|refine zAH ?_ _|refine zAJ ?_|refine zAI ?_ _));exact BK454.out) hg (Kd.R_ne HO_6.out BK454.out (by decide)));have n1_:=aK_ (hb);have n2_:=aK_ (ho);clear BK454;clear HB;clear HO_6;have BK454:=n0_;have HB:=n1_;have HO460:=n2_;clear n0_ n1_ n2_;clear ho hb hg hat))
      go_roundg k1
      case measure=>have:=HK1.out;omega
      case rel=>exact ⟨(y458),(wrap64 (x7_1+1)),(by first|rfl|(simp;done)|(simp [*];done)),H',⟨by have:=HK1.out;omega⟩,⟨by (with_reducible repeat (first|apply Kd.R_alloc|apply Kd.R_drewN|apply Kd.R_drew));exact HO460.out⟩,⟨by (with_reducible repeat (first|refine zAH ?_ _|refine zAJ ?_|refine zAI ?_ _));exact BK454.out⟩,⟨by repeat (first|(with_reducible first|exact HB.out|apply zAB|apply zAA|apply zAD|refine zAF ?_ GE454.out)|exact HB.out)⟩⟩
     ·rw [if_neg c9] at H
      exact absurd H (by simp)
    ·rw [if_neg c7] at H
     have c7b0:decide (x7_1<(l0_3.length:Int))=false:=decide_eq_false c7
     clear c7
     simp only [Option.some.injEq,Prod.mk.injEq] at H
     obtain ⟨rfl,rfl⟩:=H
     have hcz13_0:wr.cell? ⟨gb454,0,none⟩=some (.string a0_0):=(zAE BK454.out 0).trans rfl
     have hcz13_1:wr.cell? ⟨gb454,1,none⟩=some (.slice A0_1 l0_1.length c0_1):=(zAE BK454.out 1).trans rfl
     have hcz13_2:wr.cell? ⟨gb454,2,none⟩=some (.int .i64 a0_2):=(zAE BK454.out 2).trans rfl
     have hcz13_3:wr.cell? ⟨gb454,3,none⟩=some (.slice A0_3 l0_3.length c0_3):=(zAE BK454.out 3).trans rfl
     have hfz13_0:=zAC BK454.out 0
     have hfz13_1:=zAC BK454.out 1
     have hfz13_2:=zAC BK454.out 2
     have hfz13_3:=zAC BK454.out 3
     go_wp2
     go_ret2
     exact ⟨_,by first|rfl|(simp [zAQ,zAP] <;> rfl)|(simp [*,zAQ,zAP] <;> rfl),by (with_reducible repeat (first|apply Kd.R_alloc|apply Kd.R_drewN|apply Kd.R_drew));exact HO_6.out,by repeat (first|(with_reducible first|exact HB.out|apply zAB|apply zAA|apply zAD|refine zAF ?_ GE454.out)|exact HB.out)⟩
 ·rw [if_neg c3] at H
  have c3b0:(t456 == 0)=false:=beq_eq_false_iff_ne.mpr c3
  have c3b1:(t456 != 0)=true:=bne_iff_ne.mpr c3
  simp only [Option.some.injEq,Prod.mk.injEq] at H
  obtain ⟨rfl,rfl⟩:=H
  go_enter Tryd.func25,Tryd.ntmps25
  go_wp2_with (first|((with_reducible refine zAk (N:=1) rfl ?_);refine zAh ?hg (N:=1) ?hd (cs:=#[.string a0_0,.slice A0_1 l0_1.length c0_1,.int .i64 a0_2,.slice A0_3 l0_3.length c0_3]) (t:=25) ?hr ?_;(case hd=>rfl);(case hg=>rfl);(case hr=>first|(go_simp;done)|(go_simp;rfl));intro gb454 hg w14 hbox hb;have n0_:=aK_ (zAM (by repeat (first|(with_reducible first|exact HB.out|apply zAB|apply zAA|apply zAD)|exact HB.out)) hb);have n1_:=aK_ (hbox);have n2_:=aK_ ((by rw [hg];exact (zAK (by repeat (first|(with_reducible first|exact HB.out|apply zAB|apply zAA|apply zAD)|exact HB.out))):w.heap.size≤gb454));have n3_:=aK_ ((by rw [hg];exact (zAK (by repeat (first|(with_reducible first|exact HB.out|apply zAB|apply zAA|apply zAD)|exact HB.out))):w.heap.size≤gb454));clear HB;have HB:=n0_;have BK454:=n1_;have GW454:=n2_;have GE454:=n3_;clear n0_ n1_ n2_ n3_;clear hb hbox hg;have hcz15_0:w14.cell? ⟨gb454,0,none⟩=some (.string a0_0):=(zAE BK454.out 0).trans rfl;have hcz15_1:w14.cell? ⟨gb454,1,none⟩=some (.slice A0_1 l0_1.length c0_1):=(zAE BK454.out 1).trans rfl;have hcz15_2:w14.cell? ⟨gb454,2,none⟩=some (.int .i64 a0_2):=(zAE BK454.out 2).trans rfl;have hcz15_3:w14.cell? ⟨gb454,3,none⟩=some (.slice A0_3 l0_3.length c0_3):=(zAE BK454.out 3).trans rfl;have hfz15_0:=zAC BK454.out 0;have hfz15_1:=zAC BK454.out 1;have hfz15_2:=zAC BK454.out 2;have hfz15_3:=zAC BK454.out 3)|((with_reducible refine zAf (f:=17) rfl ?_);refine goesL_ (some 10) rfl rfl Tryd.func17 (by kernel_rfl) rfl #[.agg #[.string a0_0,.slice A0_1 l0_1.length c0_1,.int .i64 a0_2,.slice A0_3 l0_3.length c0_3]] rfl (by (try simp only [List.map_toArray,List.map_cons,List.map_nil]);first|done|rfl|(simp only [List.length_drop,List.length_take];rfl)) ?_;(with_reducible refine (zAN.calls k a0_0 _ _ l0_1 a0_2 _ _ l0_3 t455 t456 _ ?side1 ?side2 ?side3 ?side4 A2.out).mono ?_);(case side1=>repeat (first|exact (Kd.C_below HR0_1.out HB.out)|(with_reducible refine Kd.C_alloc ?_ _)|(with_reducible refine Kd.C_drewN ?_ _)|(with_reducible refine Kd.C_drew ?_)));(case side2=>exact HC0_1.out);(case side3=>repeat (first|exact (Kd.C_below HR0_3.out HB.out)|(with_reducible refine Kd.C_alloc ?_ _)|(with_reducible refine Kd.C_drewN ?_ _)|(with_reducible refine Kd.C_drew ?_)));(case side4=>exact HC0_3.out);rintro e w16 ⟨rfl,hb⟩;refine ⟨_,rfl,?_⟩;have n0_:=aK_ (zAb (g:=gb454) (o:=.cells #[.string a0_0,.slice A0_1 l0_1.length c0_1,.int .i64 a0_2,.slice A0_3 l0_3.length c0_3] 25 (0,0)) (by (with_reducible repeat (first|refine zAH ?_ _|refine zAJ ?_|refine zAI ?_ _));exact BK454.out) hb);have n1_:=aK_ (zAM (by repeat (first|(with_reducible first|exact HB.out|apply zAB|apply zAA|apply zAD|refine zAF ?_ GE454.out)|exact HB.out)) hb);clear BK454;clear HB;have BK454:=n0_;have HB:=n1_;clear n0_ n1_;(try clear hb);(try clear hb2);(try clear hk);(try clear hi)))
  go_ret2
  exact ⟨_,by first|rfl|(simp [zAQ,zAP] <;> rfl)|(simp [*,zAQ,zAP] <;> rfl),by first|exact Kd.R_nil _ _ _ _ _|exact Kd.N_nil _ _ _ _ _|exact Kd.V_nil _ _ _ _ _|exact Kd.Q_nil _ _ _ _ _|exact Kd.S_nil _ _ _ _ _,by repeat (first|(with_reducible first|exact HB.out|apply zAB|apply zAA|apply zAD|refine zAF ?_ GE454.out)|exact HB.out)⟩
end Go.Proofs.YthbnigjckjkmnaaDoor.S

namespace Go.Proofs.YthbnigjckjkmnaaDoor.S
open Go.RowKit Go.Proofs.YthbnigjckjkmnaaDoorW.PrintWords Go.Proofs.YthbnigjckjkmnaaDoorW.PrintLast Go.Proofs.YthbnigjckjkmnaaDoorW.PrintMore
attribute [local go_sem] max2_int min2_int max_two min_two max_three min_three max_four min_four
mutual
def zAS.l0:Nat→List Bool→Int→ByteArray→List (S47)→Int→List (S33)→Option (List Bool × Int)
 |0,_,_,_,_,_,_=>none
 |k+1,x6,x7,x478000,x478001,x478002,x478003=>if x7<(x478003.length:Int) then ((zAa.f k x478000 x478001 x478002 x478003 x7).bind fun t480=>(zAS.l1 k x6 x7 true t480 x478000 x478001 x478002 x478003)) else (some (x6,0))
def zAS.l1:Nat→List Bool→Int→Bool→Int→ByteArray→List (S47)→Int→List (S33)→Option (List Bool × Int)
 |0,_,_,_,_,_,_,_,_=>none
 |k+1,x6,x7,x8,x9,x478000,x478001,x478002,x478003=>if x9≤x7 then (if x8=true then (if 0≤x9 then (if x9<(x478003.length:Int) then (if ((zAG x478003 x9).f0)=3 then (zAS.l1 k x6 x7 false (wrap64 (x9+1)) x478000 x478001 x478002 x478003) else (zAS.l1 k x6 x7 (((zAG x478003 x9).f0) != 4) (wrap64 (x9+1)) x478000 x478001 x478002 x478003)) else (none)) else (none)) else (zAS.l1 k x6 x7 false (wrap64 (x9+1)) x478000 x478001 x478002 x478003)) else (if x6.length<140737488355328 then (zAS.l0 k (x6 ++ [x8]) (wrap64 (x7+1)) x478000 x478001 x478002 x478003) else (none))
end
def zAS.f (k:Nat) (a0_0:ByteArray) (l0_1:List (S47)) (a0_2:Int) (l0_3:List (S33)):Option (List Bool × Int):=(zAN.f k a0_0 l0_1 a0_2 l0_3).bind fun bt478=>(if bt478.2=0 then (zAS.l0 k ([]:List Bool) 0 a0_0 l0_1 a0_2 l0_3) else (some (([]:List Bool),bt478.2)))
theorem zAS.mono_l:∀ k,(∀ y0 y1 y2 y3 y4 y5,LeO (zAS.l0 k y0 y1 y2 y3 y4 y5) (zAS.l0 (k+1) y0 y1 y2 y3 y4 y5))∧(∀ y0 y1 y2 y3 y4 y5 y6 y7,LeO (zAS.l1 k y0 y1 y2 y3 y4 y5 y6 y7) (zAS.l1 (k+1) y0 y1 y2 y3 y4 y5 y6 y7))
 |0=>⟨fun _ _ _ _ _ _ r h=>by simp [zAS.l0] at h,fun _ _ _ _ _ _ _ _ r h=>by simp [zAS.l1] at h⟩
 |k+1=>by
  obtain ⟨ih0,ih1⟩:=zAS.mono_l k
  refine ⟨?_,?_⟩
  ·intro y0 y1 y2 y3 y4 y5
   unfold zAS.l0
   repeat' first
   |(with_reducible exact ih0 _ _ _ _ _ _)
   |(with_reducible exact ih1 _ _ _ _ _ _ _ _)
   |(with_reducible exact zAN.mono _ _ _ _ _)
   |(with_reducible exact zAa.mono _ _ _ _ _ _)
   |(with_reducible exact LeO.refl _)
   |(with_reducible exact LeO.none _)
   |(with_reducible refine LeO.ite ?_ ?_)
   |(with_reducible refine LeO.bind ?_ (fun _=>?_))
   |exact ih0 _ _ _ _ _ _
   |exact ih1 _ _ _ _ _ _ _ _
   |exact zAN.mono _ _ _ _ _
   |exact zAa.mono _ _ _ _ _ _
   |exact LeO.none _
   |refine LeO.ite ?_ ?_
   |refine LeO.bind ?_ (fun _=>?_)
  ·intro y0 y1 y2 y3 y4 y5 y6 y7
   unfold zAS.l1
   repeat' first
   |(with_reducible exact ih0 _ _ _ _ _ _)
   |(with_reducible exact ih1 _ _ _ _ _ _ _ _)
   |(with_reducible exact zAN.mono _ _ _ _ _)
   |(with_reducible exact zAa.mono _ _ _ _ _ _)
   |(with_reducible exact LeO.refl _)
   |(with_reducible exact LeO.none _)
   |(with_reducible refine LeO.ite ?_ ?_)
   |(with_reducible refine LeO.bind ?_ (fun _=>?_))
   |exact ih0 _ _ _ _ _ _
   |exact ih1 _ _ _ _ _ _ _ _
   |exact zAN.mono _ _ _ _ _
   |exact zAa.mono _ _ _ _ _ _
   |exact LeO.none _
   |refine LeO.ite ?_ ?_
   |refine LeO.bind ?_ (fun _=>?_)
theorem zAS.mono:∀ a0 a1 a2 a3 k,LeO (zAS.f k a0 a1 a2 a3) (zAS.f (k+1) a0 a1 a2 a3):=by
 intro a0 a1 a2 a3 k
 obtain ⟨ih0,ih1⟩:=zAS.mono_l k
 unfold zAS.f
 repeat' first
   |(with_reducible exact ih0 _ _ _ _ _ _)
   |(with_reducible exact ih1 _ _ _ _ _ _ _ _)
   |(with_reducible exact zAN.mono _ _ _ _ _)
   |(with_reducible exact zAa.mono _ _ _ _ _ _)
   |(with_reducible exact LeO.refl _)
   |(with_reducible exact LeO.none _)
   |(with_reducible refine LeO.ite ?_ ?_)
   |(with_reducible refine LeO.bind ?_ (fun _=>?_))
   |exact ih0 _ _ _ _ _ _
   |exact ih1 _ _ _ _ _ _ _ _
   |exact zAN.mono _ _ _ _ _
   |exact zAa.mono _ _ _ _ _ _
   |exact LeO.none _
   |refine LeO.ite ?_ ?_
   |refine LeO.bind ?_ (fun _=>?_)
set_option maxHeartbeats 8000000 in
set_option maxRecDepth 100000 in
theorem zAS.calls (k:Nat) (a0_0:ByteArray) (A0_1:Option Addr) (c0_1:Nat) (l0_1:List (S47)) (a0_2:Int) (A0_3:Option Addr) (c0_3:Nat) (l0_3:List (S33)) (r1:List Bool) (r2:Int) (w:World) (hr0_1:Kd.C k47 w A0_1 l0_1.length l0_1) (hc0_1:l0_1.length≤c0_1) (hr0_3:Kd.C k33 w A0_3 l0_3.length l0_3) (hc0_3:l0_3.length≤c0_3) (h:zAS.f k a0_0 l0_1 a0_2 l0_3=some (r1,r2)) :
  Calls Tryd.prog 28 #[.agg #[.string a0_0,.slice A0_1 l0_1.length c0_1,.int .i64 a0_2,.slice A0_3 l0_3.length c0_3]] w fun e w'=>∃ v0_:Value,e = .returned (.tuple #[v0_,.int .i64 r2])∧Kd.R Kd.bool 4 w' w.heap.size (fun _=>True) v0_ r1∧Below w.heap.size w w':=by
 have hu25:=Tryd.underlying25
 have HR0_1:=aK_ hr0_1
 have HC0_1:=aK_ hc0_1
 clear hr0_1 hc0_1
 have HR0_3:=aK_ hr0_3
 have HC0_3:=aK_ hc0_3
 clear hr0_3 hc0_3
 have HB:=aK_ (Below.refl w.heap.size w)
 have H:((zAN.f k a0_0 l0_1 a0_2 l0_3).bind fun bt478=>(if bt478.2=0 then (zAS.l0 k ([]:List Bool) 0 a0_0 l0_1 a0_2 l0_3) else (some (([]:List Bool),bt478.2))))=some (r1,r2):=h
 clear h
 replace H:=Option.bind_eq_some_iff.mp H
 obtain ⟨⟨t478,t479⟩,A20,H⟩:=H
 replace H:(if t479=0 then (zAS.l0 k ([]:List Bool) 0 a0_0 l0_1 a0_2 l0_3) else (some (([]:List Bool),t479)))=some (r1,r2):=H
 have A2:=aK_ A20
 clear A20
 by_cases c3:t479=0
 ·rw [if_pos c3] at H
  have c3b0:(t479 == 0)=true:=beq_iff_eq.mpr c3
  have c3b1:(t479 != 0)=false:=bne_eq_false_iff_eq.mpr c3
  clear c3
  have H':=aK_ H
  clear H
  go_enter Tryd.func28,Tryd.ntmps28
  go_wp2_with (first|((with_reducible refine zAk (N:=1) rfl ?_);refine zAh ?hg (N:=1) ?hd (cs:=#[.string a0_0,.slice A0_1 l0_1.length c0_1,.int .i64 a0_2,.slice A0_3 l0_3.length c0_3]) (t:=25) ?hr ?_;(case hd=>rfl);(case hg=>rfl);(case hr=>first|(go_simp;done)|(go_simp;rfl));intro gb477 hg w4 hbox hb;have n0_:=aK_ (zAM (by repeat (first|(with_reducible first|exact HB.out|apply zAB|apply zAA|apply zAD)|exact HB.out)) hb);have n1_:=aK_ (hbox);have n2_:=aK_ ((by rw [hg];exact (zAK (by repeat (first|(with_reducible first|exact HB.out|apply zAB|apply zAA|apply zAD)|exact HB.out))):w.heap.size≤gb477));have n3_:=aK_ ((by rw [hg];exact (zAK (by repeat (first|(with_reducible first|exact HB.out|apply zAB|apply zAA|apply zAD)|exact HB.out))):w.heap.size≤gb477));clear HB;have HB:=n0_;have BK477:=n1_;have GW477:=n2_;have GE477:=n3_;clear n0_ n1_ n2_ n3_;clear hb hbox hg;have hcz5_0:w4.cell? ⟨gb477,0,none⟩=some (.string a0_0):=(zAE BK477.out 0).trans rfl;have hcz5_1:w4.cell? ⟨gb477,1,none⟩=some (.slice A0_1 l0_1.length c0_1):=(zAE BK477.out 1).trans rfl;have hcz5_2:w4.cell? ⟨gb477,2,none⟩=some (.int .i64 a0_2):=(zAE BK477.out 2).trans rfl;have hcz5_3:w4.cell? ⟨gb477,3,none⟩=some (.slice A0_3 l0_3.length c0_3):=(zAE BK477.out 3).trans rfl;have hfz5_0:=zAC BK477.out 0;have hfz5_1:=zAC BK477.out 1;have hfz5_2:=zAC BK477.out 2;have hfz5_3:=zAC BK477.out 3)|((with_reducible refine zAf (f:=17) rfl ?_);refine goesL_ (some 12) rfl rfl Tryd.func17 (by kernel_rfl) rfl #[.agg #[.string a0_0,.slice A0_1 l0_1.length c0_1,.int .i64 a0_2,.slice A0_3 l0_3.length c0_3]] rfl (by (try simp only [List.map_toArray,List.map_cons,List.map_nil]);first|done|rfl|(simp only [List.length_drop,List.length_take];rfl)) ?_;(with_reducible refine (zAN.calls k a0_0 _ _ l0_1 a0_2 _ _ l0_3 t478 t479 _ ?side1 ?side2 ?side3 ?side4 A2.out).mono ?_);(case side1=>repeat (first|exact (Kd.C_below HR0_1.out HB.out)|(with_reducible refine Kd.C_alloc ?_ _)|(with_reducible refine Kd.C_drewN ?_ _)|(with_reducible refine Kd.C_drew ?_)));(case side2=>exact HC0_1.out);(case side3=>repeat (first|exact (Kd.C_below HR0_3.out HB.out)|(with_reducible refine Kd.C_alloc ?_ _)|(with_reducible refine Kd.C_drewN ?_ _)|(with_reducible refine Kd.C_drew ?_)));(case side4=>exact HC0_3.out);rintro e w6 ⟨rfl,hb⟩;refine ⟨_,rfl,?_⟩;have n0_:=aK_ (zAb (g:=gb477) (o:=.cells #[.string a0_0,.slice A0_1 l0_1.length c0_1,.int .i64 a0_2,.slice A0_3 l0_3.length c0_3] 25 (0,0)) (by (with_reducible repeat (first|refine zAH ?_ _|refine zAJ ?_|refine zAI ?_ _));exact BK477.out) hb);have n1_:=aK_ (zAM (by repeat (first|(with_reducible first|exact HB.out|apply zAB|apply zAA|apply zAD|refine zAF ?_ GE477.out)|exact HB.out)) hb);clear BK477;clear HB;have BK477:=n0_;have HB:=n1_;clear n0_ n1_;(try clear hb);(try clear hb2);(try clear hk);(try clear hi)))
  (try simp only [Act.put,List.setIfInBounds_toArray,List.set_cons_zero,List.set_cons_succ])
  go_loopg [6,7] k (fun kq v6 v7 w'=>∃ (x6_1:List Bool) (x7_1:Int),v7 = .int .i64 x7_1∧zAg (zAS.l0 kq x6_1 x7_1 a0_0 l0_1 a0_2 l0_3=some (r1,r2))∧zAg (kq≤k)∧zAg (Kd.R Kd.bool 4 w' w.heap.size (fun _=>True) v6 x6_1)∧zAg (w'.heap[gb477]?=some (.cells #[.string a0_0,(.slice A0_1 l0_1.length c0_1),.int .i64 a0_2,(.slice A0_3 l0_3.length c0_3)] 25 (0,0)))∧zAg (Below w.heap.size w w'))
  case atStart=>exact ⟨(([]:List Bool)),(0),(by first|rfl|(simp;done)|(simp [*];done)),H',⟨Nat.le_refl _⟩,⟨by first|exact Kd.R_nil _ _ _ _ _|exact Kd.N_nil _ _ _ _ _|exact Kd.V_nil _ _ _ _ _|exact Kd.Q_nil _ _ _ _ _|exact Kd.S_nil _ _ _ _ _⟩,⟨by (with_reducible repeat (first|refine zAH ?_ _|refine zAJ ?_|refine zAI ?_ _));exact BK477.out⟩,⟨by repeat (first|(with_reducible first|exact HB.out|apply zAB|apply zAA|apply zAD|refine zAF ?_ GE477.out)|exact HB.out)⟩⟩
  case round =>
   clear H'
   try clear c1
   try clear c2
   try clear p2
   try clear c3
   try clear c3b0
   try clear c3b1
   try clear hcz5_0
   try clear hcz5_1
   try clear hcz5_2
   try clear hcz5_3
   try clear hfz5_0
   try clear hfz5_1
   try clear hfz5_2
   try clear hfz5_3
   obtain ⟨x6_1,x7_1,rfl,HA,HK1,HO_6,BK477,HB⟩:=hrel
   cases gk with
   |zero=>exact absurd HA.out (by simp [zAS.l0])
   |succ k1 =>
    have H:=HA.out
    clear HA
    simp only [zAS.l0] at H
    by_cases c7:x7_1<(l0_3.length:Int)
    ·rw [if_pos c7] at H
     have c7b0:decide (x7_1<(l0_3.length:Int))=true:=decide_eq_true c7
     clear c7
     replace H:=Option.bind_eq_some_iff.mp H
     obtain ⟨t480,A80,H⟩:=H
     replace H:(zAS.l1 k1 x6_1 x7_1 true t480 a0_0 l0_1 a0_2 l0_3)=some (r1,r2):=H
     have A8:=aK_ A80
     clear A80
     have H':=aK_ H
     clear H
     have hcz9_0:wr.cell? ⟨gb477,0,none⟩=some (.string a0_0):=(zAE BK477.out 0).trans rfl
     have hcz9_1:wr.cell? ⟨gb477,1,none⟩=some (.slice A0_1 l0_1.length c0_1):=(zAE BK477.out 1).trans rfl
     have hcz9_2:wr.cell? ⟨gb477,2,none⟩=some (.int .i64 a0_2):=(zAE BK477.out 2).trans rfl
     have hcz9_3:wr.cell? ⟨gb477,3,none⟩=some (.slice A0_3 l0_3.length c0_3):=(zAE BK477.out 3).trans rfl
     have hfz9_0:=zAC BK477.out 0
     have hfz9_1:=zAC BK477.out 1
     have hfz9_2:=zAC BK477.out 2
     have hfz9_3:=zAC BK477.out 3
     go_wp2_with (first|((with_reducible refine zAf (f:=50) rfl ?_);refine goesL_ (some 27) rfl rfl Tryd.func50 (by kernel_rfl) rfl #[.agg #[.string a0_0,.slice A0_1 l0_1.length c0_1,.int .i64 a0_2,.slice A0_3 l0_3.length c0_3],.int .i64 x7_1] rfl (by (try simp only [List.map_toArray,List.map_cons,List.map_nil]);first|done|rfl|(simp only [List.length_drop,List.length_take];rfl)) ?_;(with_reducible refine (zAa.calls k1 a0_0 _ _ l0_1 a0_2 _ _ l0_3 x7_1 t480 _ ?side1 ?side2 ?side3 ?side4 A8.out).mono ?_);(case side1=>repeat (first|exact (Kd.C_below HR0_1.out HB.out)|(with_reducible refine Kd.C_alloc ?_ _)|(with_reducible refine Kd.C_drewN ?_ _)|(with_reducible refine Kd.C_drew ?_)));(case side2=>exact HC0_1.out);(case side3=>repeat (first|exact (Kd.C_below HR0_3.out HB.out)|(with_reducible refine Kd.C_alloc ?_ _)|(with_reducible refine Kd.C_drewN ?_ _)|(with_reducible refine Kd.C_drew ?_)));(case side4=>exact HC0_3.out);rintro e w10 ⟨rfl,hb⟩;refine ⟨_,rfl,?_⟩;have n0_:=aK_ (Kd.R_below (by (with_reducible repeat (first|apply Kd.R_alloc|apply Kd.R_drewN|apply Kd.R_drew));exact HO_6.out) hb);have n1_:=aK_ (zAb (g:=gb477) (o:=.cells #[.string a0_0,.slice A0_1 l0_1.length c0_1,.int .i64 a0_2,.slice A0_3 l0_3.length c0_3] 25 (0,0)) (by (with_reducible repeat (first|refine zAH ?_ _|refine zAJ ?_|refine zAI ?_ _));exact BK477.out) hb);have n2_:=aK_ (zAM (by repeat (first|(with_reducible first|exact HB.out|apply zAB|apply zAA|apply zAD|refine zAF ?_ GE477.out)|exact HB.out)) hb);clear HO_6;clear BK477;clear HB;have HO_6:=n0_;have BK477:=n1_;have HB:=n2_;clear n0_ n1_ n2_;(try clear hb);(try clear hb2);(try clear hk);(try clear hi)))
     (try simp only [Act.put,List.setIfInBounds_toArray,List.set_cons_zero,List.set_cons_succ])
     go_loopg [8,9] k1 (fun kq v8 v9 w'=>∃ (x8_2:Bool) (x9_2:Int),v8 = .bool x8_2∧v9 = .int .i64 x9_2∧zAg (zAS.l1 kq x6_1 x7_1 x8_2 x9_2 a0_0 l0_1 a0_2 l0_3=some (r1,r2))∧zAg (kq≤k1)∧zAg (Kd.R Kd.bool 4 w' w.heap.size (fun _=>True) u6 x6_1)∧zAg (w'.heap[gb477]?=some (.cells #[.string a0_0,(.slice A0_1 l0_1.length c0_1),.int .i64 a0_2,(.slice A0_3 l0_3.length c0_3)] 25 (0,0)))∧zAg (Below w.heap.size w w'))
     case atStart=>exact ⟨(true),(t480),(by first|rfl|(simp;done)|(simp [*];done)),(by first|rfl|(simp;done)|(simp [*];done)),H',⟨Nat.le_refl _⟩,⟨by (with_reducible repeat (first|apply Kd.R_alloc|apply Kd.R_drewN|apply Kd.R_drew));exact HO_6.out⟩,⟨by (with_reducible repeat (first|refine zAH ?_ _|refine zAJ ?_|refine zAI ?_ _));exact BK477.out⟩,⟨by repeat (first|(with_reducible first|exact HB.out|apply zAB|apply zAA|apply zAD|refine zAF ?_ GE477.out)|exact HB.out)⟩⟩
     case round =>
      clear H'
      try clear c1
      try clear c2
      try clear p2
      try clear c3
      try clear c3b0
      try clear c3b1
      try clear c5
      try clear c7
      try clear c7b0
      try clear hcz5_0
      try clear hcz5_1
      try clear hcz5_2
      try clear hcz5_3
      try clear hcz9_0
      try clear hcz9_1
      try clear hcz9_2
      try clear hcz9_3
      try clear hfz5_0
      try clear hfz5_1
      try clear hfz5_2
      try clear hfz5_3
      try clear hfz9_0
      try clear hfz9_1
      try clear hfz9_2
      try clear hfz9_3
      try clear p2
      obtain ⟨x8_2,x9_2,rfl,rfl,HA,HK2,HO_6,BK477,HB⟩:=hrel
      cases gk with
      |zero=>exact absurd HA.out (by simp [zAS.l1])
      |succ k2 =>
       have H:=HA.out
       clear HA
       simp only [zAS.l1] at H
       by_cases c11:x9_2≤x7_1
       ·rw [if_pos c11] at H
        have c11b0:decide (x9_2≤x7_1)=true:=decide_eq_true c11
        clear c11
        by_cases c12:x8_2=true
        ·subst c12
         have H1:(if 0≤x9_2 then (if x9_2<(l0_3.length:Int) then (if ((zAG l0_3 x9_2).f0)=3 then (zAS.l1 k2 x6_1 x7_1 false (wrap64 (x9_2+1)) a0_0 l0_1 a0_2 l0_3) else (zAS.l1 k2 x6_1 x7_1 (((zAG l0_3 x9_2).f0) != 4) (wrap64 (x9_2+1)) a0_0 l0_1 a0_2 l0_3)) else (none)) else (none))=some (r1,r2):=by rw [if_pos rfl] at H;exact H
         clear H
         have H:=H1
         clear H1
         by_cases c13:0≤x9_2
         ·rw [if_pos c13] at H
          have c13b0:decide (0≤x9_2)=true:=decide_eq_true c13
          clear c13
          by_cases c14:x9_2<(l0_3.length:Int)
          ·rw [if_pos c14] at H
           have c14b0:decide (x9_2<(l0_3.length:Int))=true:=decide_eq_true c14
           clear c14
           by_cases c15:((zAG l0_3 x9_2).f0)=3
           ·rw [if_pos c15] at H
            have c15b0:(((zAG l0_3 x9_2).f0) == 3)=true:=beq_iff_eq.mpr c15
            have c15b1:(((zAG l0_3 x9_2).f0) != 3)=false:=bne_eq_false_iff_eq.mpr c15
            clear c15
            have H':=aK_ H
            clear H
            have hcz16_0:wr.cell? ⟨gb477,0,none⟩=some (.string a0_0):=(zAE BK477.out 0).trans rfl
            have hcz16_1:wr.cell? ⟨gb477,1,none⟩=some (.slice A0_1 l0_1.length c0_1):=(zAE BK477.out 1).trans rfl
            have hcz16_2:wr.cell? ⟨gb477,2,none⟩=some (.int .i64 a0_2):=(zAE BK477.out 2).trans rfl
            have hcz16_3:wr.cell? ⟨gb477,3,none⟩=some (.slice A0_3 l0_3.length c0_3):=(zAE BK477.out 3).trans rfl
            have hfz16_0:=zAC BK477.out 0
            have hfz16_1:=zAC BK477.out 1
            have hfz16_2:=zAC BK477.out 2
            have hfz16_3:=zAC BK477.out 3
            have p481:0≤(x9_2:Int):=of_decide_eq_true (by first|(with_reducible assumption)|assumption)
            have q481:x9_2<(l0_3.length:Int):=of_decide_eq_true (by first|(with_reducible assumption)|assumption)
            obtain ⟨ad481,A481_4,c481_4,e481,hx481_0,hx481_1,hx481_2,hx481_3,hx481_4,hx481_5,hl481_4,hi481_4⟩:=at_T33 HR0_3.out x9_2 p481 q481
            cases e481
            replace hx481_0:=(HB.out.cell (World.block_lt_of_cell? w _ hx481_0)).trans hx481_0
            replace hx481_1:=(HB.out.cell (World.block_lt_of_cell? w _ hx481_1)).trans hx481_1
            replace hx481_2:=(HB.out.cell (World.block_lt_of_cell? w _ hx481_2)).trans hx481_2
            replace hx481_3:=(HB.out.cell (World.block_lt_of_cell? w _ hx481_3)).trans hx481_3
            replace hx481_4:=(HB.out.cell (World.block_lt_of_cell? w _ hx481_4)).trans hx481_4
            replace hx481_5:=(HB.out.cell (World.block_lt_of_cell? w _ hx481_5)).trans hx481_5
            have HR481_4:=aK_ hi481_4
            have HC481_4:=aK_ hl481_4
            clear hi481_4 hl481_4
            replace p481:=eq_true p481
            replace q481:=eq_true q481
            go_wp2
            go_roundg k2
            case measure=>have:=HK1.out;have:=HK2.out;omega
            case rel=>exact ⟨(false),(wrap64 (x9_2+1)),(by first|rfl|(simp;done)|(simp [*];done)),(by first|rfl|(simp;done)|(simp [*];done)),H',⟨by have:=HK1.out;have:=HK2.out;omega⟩,⟨by (with_reducible repeat (first|apply Kd.R_alloc|apply Kd.R_drewN|apply Kd.R_drew));exact HO_6.out⟩,⟨by (with_reducible repeat (first|refine zAH ?_ _|refine zAJ ?_|refine zAI ?_ _));exact BK477.out⟩,⟨by repeat (first|(with_reducible first|exact HB.out|apply zAB|apply zAA|apply zAD|refine zAF ?_ GE477.out)|exact HB.out)⟩⟩
           ·rw [if_neg c15] at H
            have c15b0:(((zAG l0_3 x9_2).f0) == 3)=false:=beq_eq_false_iff_ne.mpr c15
            have c15b1:(((zAG l0_3 x9_2).f0) != 3)=true:=bne_iff_ne.mpr c15
            have H':=aK_ H
            clear H
            have hcz17_0:wr.cell? ⟨gb477,0,none⟩=some (.string a0_0):=(zAE BK477.out 0).trans rfl
            have hcz17_1:wr.cell? ⟨gb477,1,none⟩=some (.slice A0_1 l0_1.length c0_1):=(zAE BK477.out 1).trans rfl
            have hcz17_2:wr.cell? ⟨gb477,2,none⟩=some (.int .i64 a0_2):=(zAE BK477.out 2).trans rfl
            have hcz17_3:wr.cell? ⟨gb477,3,none⟩=some (.slice A0_3 l0_3.length c0_3):=(zAE BK477.out 3).trans rfl
            have hfz17_0:=zAC BK477.out 0
            have hfz17_1:=zAC BK477.out 1
            have hfz17_2:=zAC BK477.out 2
            have hfz17_3:=zAC BK477.out 3
            have p481:0≤(x9_2:Int):=of_decide_eq_true (by first|(with_reducible assumption)|assumption)
            have q481:x9_2<(l0_3.length:Int):=of_decide_eq_true (by first|(with_reducible assumption)|assumption)
            obtain ⟨ad481,A481_4,c481_4,e481,hx481_0,hx481_1,hx481_2,hx481_3,hx481_4,hx481_5,hl481_4,hi481_4⟩:=at_T33 HR0_3.out x9_2 p481 q481
            cases e481
            replace hx481_0:=(HB.out.cell (World.block_lt_of_cell? w _ hx481_0)).trans hx481_0
            replace hx481_1:=(HB.out.cell (World.block_lt_of_cell? w _ hx481_1)).trans hx481_1
            replace hx481_2:=(HB.out.cell (World.block_lt_of_cell? w _ hx481_2)).trans hx481_2
            replace hx481_3:=(HB.out.cell (World.block_lt_of_cell? w _ hx481_3)).trans hx481_3
            replace hx481_4:=(HB.out.cell (World.block_lt_of_cell? w _ hx481_4)).trans hx481_4
            replace hx481_5:=(HB.out.cell (World.block_lt_of_cell? w _ hx481_5)).trans hx481_5
            have HR481_4:=aK_ hi481_4
            have HC481_4:=aK_ hl481_4
            clear hi481_4 hl481_4
            replace p481:=eq_true p481
            replace q481:=eq_true q481
            have p482:0≤(x9_2:Int):=of_decide_eq_true (by first|(with_reducible assumption)|assumption)
            have q482:x9_2<(l0_3.length:Int):=of_decide_eq_true (by first|(with_reducible assumption)|assumption)
            obtain ⟨ad482,A482_4,c482_4,e482,hx482_0,hx482_1,hx482_2,hx482_3,hx482_4,hx482_5,hl482_4,hi482_4⟩:=at_T33 HR0_3.out x9_2 p482 q482
            obtain rfl:ad481=ad482:=(by injection e482)
            replace hx482_0:=(HB.out.cell (World.block_lt_of_cell? w _ hx482_0)).trans hx482_0
            replace hx482_1:=(HB.out.cell (World.block_lt_of_cell? w _ hx482_1)).trans hx482_1
            replace hx482_2:=(HB.out.cell (World.block_lt_of_cell? w _ hx482_2)).trans hx482_2
            replace hx482_3:=(HB.out.cell (World.block_lt_of_cell? w _ hx482_3)).trans hx482_3
            replace hx482_4:=(HB.out.cell (World.block_lt_of_cell? w _ hx482_4)).trans hx482_4
            replace hx482_5:=(HB.out.cell (World.block_lt_of_cell? w _ hx482_5)).trans hx482_5
            have HR482_4:=aK_ hi482_4
            have HC482_4:=aK_ hl482_4
            clear hi482_4 hl482_4
            replace p482:=eq_true p482
            replace q482:=eq_true q482
            have ea_:=Option.some.inj (hx481_4.symm.trans hx482_4)
            injection ea_ with ea_ en_ ec_
            subst ea_
            subst ec_
            clear en_
            go_wp2
            go_roundg k2
            case measure=>have:=HK1.out;have:=HK2.out;omega
            case rel=>exact ⟨((((zAG l0_3 x9_2).f0) != 4)),(wrap64 (x9_2+1)),(by first|rfl|(simp;done)|(simp [*];done)),(by first|rfl|(simp;done)|(simp [*];done)),H',⟨by have:=HK1.out;have:=HK2.out;omega⟩,⟨by (with_reducible repeat (first|apply Kd.R_alloc|apply Kd.R_drewN|apply Kd.R_drew));exact HO_6.out⟩,⟨by (with_reducible repeat (first|refine zAH ?_ _|refine zAJ ?_|refine zAI ?_ _));exact BK477.out⟩,⟨by repeat (first|(with_reducible first|exact HB.out|apply zAB|apply zAA|apply zAD|refine zAF ?_ GE477.out)|exact HB.out)⟩⟩
          ·rw [if_neg c14] at H
           exact absurd H (by simp)
         ·rw [if_neg c13] at H
          exact absurd H (by simp)
        ·replace c12:=Bool.eq_false_iff.mpr c12
         subst c12
         have H1:(zAS.l1 k2 x6_1 x7_1 false (wrap64 (x9_2+1)) a0_0 l0_1 a0_2 l0_3)=some (r1,r2):=by rw [if_neg (show ¬ (false=true) by decide)] at H;exact H
         clear H
         have H:=H1
         clear H1
         have H':=aK_ H
         clear H
         go_wp2
         go_roundg k2
         case measure=>have:=HK1.out;have:=HK2.out;omega
         case rel=>exact ⟨(false),(wrap64 (x9_2+1)),(by first|rfl|(simp;done)|(simp [*];done)),(by first|rfl|(simp;done)|(simp [*];done)),H',⟨by have:=HK1.out;have:=HK2.out;omega⟩,⟨by (with_reducible repeat (first|apply Kd.R_alloc|apply Kd.R_drewN|apply Kd.R_drew));exact HO_6.out⟩,⟨by (with_reducible repeat (first|refine zAH ?_ _|refine zAJ ?_|refine zAI ?_ _));exact BK477.out⟩,⟨by repeat (first|(with_reducible first|exact HB.out|apply zAB|apply zAA|apply zAD|refine zAF ?_ GE477.out)|exact HB.out)⟩⟩
       ·rw [if_neg c11] at H
        have c11b0:decide (x9_2≤x7_1)=false:=decide_eq_false c11
        clear c11
        by_cases c18:x6_1.length<140737488355328
        ·rw [if_pos c18] at H
         have LMc18:=aK_ c18
         clear c18
         obtain ⟨y483,hy483⟩:∃ y_:List Bool,y_=(x6_1 ++ [x8_2]):=⟨_,rfl⟩
         replace H:(zAS.l0 k2 y483 (wrap64 (x7_1+1)) a0_0 l0_1 a0_2 l0_3)=some (r1,r2):=by first|(rw [hy483];with_reducible exact H)|(have H2_:=(Option.bind_some _ _).symm.trans H;rw [hy483];with_reducible exact H2_)|(have H2_:=(Option.bind_some _ _).symm.trans H;with_reducible exact H2_)|with_reducible exact H|(rw [hy483];exact H)|exact H
         have Ny483:=aK_ hy483
         clear hy483
         have H':=aK_ H
         clear H
         go_wp2_with (first|((with_reducible refine gate_builtin (b:=.append) (xs:=#[.tmp 52,.tmp 54]) rfl ?_);at_builtin;refine Kd.R_append Kd.bool (w0:=w) w.heap.size rfl (.tmp 52) (.tmp 54) 49 4 (.bool false) 1 rfl Tryd.underlying49 info4 rfl (by decide) (by omega) u6 x6_1 x8_2 [.bool x8_2] (fun _=>True) (fun _=>False) rfl rfl ?aP (fun _ hk=>hk.elim) ?aF ?aO ?aB ?aS ?aL ?_;(case aP=>exact rfl);(case aB=>exact (by repeat (first|(with_reducible first|exact HB.out|apply zAB|apply zAA|apply zAD|refine zAF ?_ GE477.out)|exact HB.out)));(case aF=>exact (fun _ _=>trivial));(case aO=>exact (by (with_reducible repeat (first|apply Kd.R_alloc|apply Kd.R_drewN|apply Kd.R_drew));exact HO_6.out));(case aS=>exact (zAK (by repeat (first|(with_reducible first|exact HB.out|apply zAB|apply zAA|apply zAD|refine zAF ?_ GE477.out)|exact HB.out))));(case aL=>have:=LMc18.out;omega);intro v484 w19 ho hb hg hat;rw [← Ny483.out] at ho;have n0_:=aK_ (blk_grown (g:=gb477) (o:=.cells #[.string a0_0,.slice A0_1 l0_1.length c0_1,.int .i64 a0_2,.slice A0_3 l0_3.length c0_3] 25 (0,0)) (by (with_reducible repeat (first|refine zAH ?_ _|refine zAJ ?_|refine zAI ?_ _));exact BK477.out) hg (Kd.R_ne HO_6.out BK477.out (by decide)));have n1_:=aK_ (hb);have n2_:=aK_ (ho);clear BK477;clear HB;clear HO_6;have BK477:=n0_;have HB:=n1_;have HO485:=n2_;clear n0_ n1_ n2_;clear ho hb hg hat))
         go_roundg k2
         case measure=>have:=HK1.out;have:=HK2.out;omega
         case rel=>exact ⟨(y483),(wrap64 (x7_1+1)),(by first|rfl|(simp;done)|(simp [*];done)),H',⟨by have:=HK1.out;have:=HK2.out;omega⟩,⟨by (with_reducible repeat (first|apply Kd.R_alloc|apply Kd.R_drewN|apply Kd.R_drew));exact HO485.out⟩,⟨by (with_reducible repeat (first|refine zAH ?_ _|refine zAJ ?_|refine zAI ?_ _));exact BK477.out⟩,⟨by repeat (first|(with_reducible first|exact HB.out|apply zAB|apply zAA|apply zAD|refine zAF ?_ GE477.out)|exact HB.out)⟩⟩
        ·rw [if_neg c18] at H
         exact absurd H (by simp)
    ·rw [if_neg c7] at H
     have c7b0:decide (x7_1<(l0_3.length:Int))=false:=decide_eq_false c7
     clear c7
     simp only [Option.some.injEq,Prod.mk.injEq] at H
     obtain ⟨rfl,rfl⟩:=H
     have hcz20_0:wr.cell? ⟨gb477,0,none⟩=some (.string a0_0):=(zAE BK477.out 0).trans rfl
     have hcz20_1:wr.cell? ⟨gb477,1,none⟩=some (.slice A0_1 l0_1.length c0_1):=(zAE BK477.out 1).trans rfl
     have hcz20_2:wr.cell? ⟨gb477,2,none⟩=some (.int .i64 a0_2):=(zAE BK477.out 2).trans rfl
     have hcz20_3:wr.cell? ⟨gb477,3,none⟩=some (.slice A0_3 l0_3.length c0_3):=(zAE BK477.out 3).trans rfl
     have hfz20_0:=zAC BK477.out 0
     have hfz20_1:=zAC BK477.out 1
     have hfz20_2:=zAC BK477.out 2
     have hfz20_3:=zAC BK477.out 3
     go_wp2
     go_ret2
     exact ⟨_,by first|rfl|(simp [zAQ,zAP] <;> rfl)|(simp [*,zAQ,zAP] <;> rfl),by (with_reducible repeat (first|apply Kd.R_alloc|apply Kd.R_drewN|apply Kd.R_drew));exact HO_6.out,by repeat (first|(with_reducible first|exact HB.out|apply zAB|apply zAA|apply zAD|refine zAF ?_ GE477.out)|exact HB.out)⟩
 ·rw [if_neg c3] at H
  have c3b0:(t479 == 0)=false:=beq_eq_false_iff_ne.mpr c3
  have c3b1:(t479 != 0)=true:=bne_iff_ne.mpr c3
  simp only [Option.some.injEq,Prod.mk.injEq] at H
  obtain ⟨rfl,rfl⟩:=H
  go_enter Tryd.func28,Tryd.ntmps28
  go_wp2_with (first|((with_reducible refine zAk (N:=1) rfl ?_);refine zAh ?hg (N:=1) ?hd (cs:=#[.string a0_0,.slice A0_1 l0_1.length c0_1,.int .i64 a0_2,.slice A0_3 l0_3.length c0_3]) (t:=25) ?hr ?_;(case hd=>rfl);(case hg=>rfl);(case hr=>first|(go_simp;done)|(go_simp;rfl));intro gb477 hg w21 hbox hb;have n0_:=aK_ (zAM (by repeat (first|(with_reducible first|exact HB.out|apply zAB|apply zAA|apply zAD)|exact HB.out)) hb);have n1_:=aK_ (hbox);have n2_:=aK_ ((by rw [hg];exact (zAK (by repeat (first|(with_reducible first|exact HB.out|apply zAB|apply zAA|apply zAD)|exact HB.out))):w.heap.size≤gb477));have n3_:=aK_ ((by rw [hg];exact (zAK (by repeat (first|(with_reducible first|exact HB.out|apply zAB|apply zAA|apply zAD)|exact HB.out))):w.heap.size≤gb477));clear HB;have HB:=n0_;have BK477:=n1_;have GW477:=n2_;have GE477:=n3_;clear n0_ n1_ n2_ n3_;clear hb hbox hg;have hcz22_0:w21.cell? ⟨gb477,0,none⟩=some (.string a0_0):=(zAE BK477.out 0).trans rfl;have hcz22_1:w21.cell? ⟨gb477,1,none⟩=some (.slice A0_1 l0_1.length c0_1):=(zAE BK477.out 1).trans rfl;have hcz22_2:w21.cell? ⟨gb477,2,none⟩=some (.int .i64 a0_2):=(zAE BK477.out 2).trans rfl;have hcz22_3:w21.cell? ⟨gb477,3,none⟩=some (.slice A0_3 l0_3.length c0_3):=(zAE BK477.out 3).trans rfl;have hfz22_0:=zAC BK477.out 0;have hfz22_1:=zAC BK477.out 1;have hfz22_2:=zAC BK477.out 2;have hfz22_3:=zAC BK477.out 3)|((with_reducible refine zAf (f:=17) rfl ?_);refine goesL_ (some 12) rfl rfl Tryd.func17 (by kernel_rfl) rfl #[.agg #[.string a0_0,.slice A0_1 l0_1.length c0_1,.int .i64 a0_2,.slice A0_3 l0_3.length c0_3]] rfl (by (try simp only [List.map_toArray,List.map_cons,List.map_nil]);first|done|rfl|(simp only [List.length_drop,List.length_take];rfl)) ?_;(with_reducible refine (zAN.calls k a0_0 _ _ l0_1 a0_2 _ _ l0_3 t478 t479 _ ?side1 ?side2 ?side3 ?side4 A2.out).mono ?_);(case side1=>repeat (first|exact (Kd.C_below HR0_1.out HB.out)|(with_reducible refine Kd.C_alloc ?_ _)|(with_reducible refine Kd.C_drewN ?_ _)|(with_reducible refine Kd.C_drew ?_)));(case side2=>exact HC0_1.out);(case side3=>repeat (first|exact (Kd.C_below HR0_3.out HB.out)|(with_reducible refine Kd.C_alloc ?_ _)|(with_reducible refine Kd.C_drewN ?_ _)|(with_reducible refine Kd.C_drew ?_)));(case side4=>exact HC0_3.out);rintro e w23 ⟨rfl,hb⟩;refine ⟨_,rfl,?_⟩;have n0_:=aK_ (zAb (g:=gb477) (o:=.cells #[.string a0_0,.slice A0_1 l0_1.length c0_1,.int .i64 a0_2,.slice A0_3 l0_3.length c0_3] 25 (0,0)) (by (with_reducible repeat (first|refine zAH ?_ _|refine zAJ ?_|refine zAI ?_ _));exact BK477.out) hb);have n1_:=aK_ (zAM (by repeat (first|(with_reducible first|exact HB.out|apply zAB|apply zAA|apply zAD|refine zAF ?_ GE477.out)|exact HB.out)) hb);clear BK477;clear HB;have BK477:=n0_;have HB:=n1_;clear n0_ n1_;(try clear hb);(try clear hb2);(try clear hk);(try clear hi)))
  go_ret2
  exact ⟨_,by first|rfl|(simp [zAQ,zAP] <;> rfl)|(simp [*,zAQ,zAP] <;> rfl),by first|exact Kd.R_nil _ _ _ _ _|exact Kd.N_nil _ _ _ _ _|exact Kd.V_nil _ _ _ _ _|exact Kd.Q_nil _ _ _ _ _|exact Kd.S_nil _ _ _ _ _,by repeat (first|(with_reducible first|exact HB.out|apply zAB|apply zAA|apply zAD|refine zAF ?_ GE477.out)|exact HB.out)⟩
end Go.Proofs.YthbnigjckjkmnaaDoor.S

namespace Go.Proofs.YthbnigjckjkmnaaDoor.S
open Go.RowKit Go.Proofs.YthbnigjckjkmnaaDoorW.PrintWords Go.Proofs.YthbnigjckjkmnaaDoorW.PrintLast Go.Proofs.YthbnigjckjkmnaaDoorW.PrintMore
attribute [local go_sem] max2_int min2_int max_two min_two max_three min_three max_four min_four
def zAi.l0:Nat→List Bool→List Bool→Int→Option (Bool)
 |0,_,_,_=>none
 |k+1,x0,x1,x5=>if x5<(x0.length:Int) then (if 0≤x5 then (if x5<(x1.length:Int) then (if ((rdOf false x0 x5) != (rdOf false x1 x5))=true then (some false) else (zAi.l0 k x0 x1 (wrap64 (x5+1)))) else (none)) else (none)) else (some true)
def zAi.f (k:Nat) (l0:List Bool) (l1:List Bool):Option (Bool):=if (l0.length:Int)=(l1.length:Int) then (zAi.l0 k l0 l1 0) else (some false)
theorem zAi.mono_l:∀ k,(∀ y0 y1 y2,LeO (zAi.l0 k y0 y1 y2) (zAi.l0 (k+1) y0 y1 y2))
 |0=>fun _ _ _ r h=>by simp [zAi.l0] at h
 |k+1=>by
  have ih0:=zAi.mono_l k
  ·intro y0 y1 y2
   unfold zAi.l0
   repeat' first
   |(with_reducible exact ih0 _ _ _)
   |(with_reducible exact LeO.refl _)
   |(with_reducible exact LeO.none _)
   |(with_reducible refine LeO.ite ?_ ?_)
   |(with_reducible refine LeO.bind ?_ (fun _=>?_))
   |exact ih0 _ _ _
   |exact LeO.none _
   |refine LeO.ite ?_ ?_
   |refine LeO.bind ?_ (fun _=>?_)
theorem zAi.mono:∀ a0 a1 k,LeO (zAi.f k a0 a1) (zAi.f (k+1) a0 a1):=by
 intro a0 a1 k
 have ih0:=zAi.mono_l k
 unfold zAi.f
 repeat' first
   |(with_reducible exact ih0 _ _ _)
   |(with_reducible exact LeO.refl _)
   |(with_reducible exact LeO.none _)
   |(with_reducible refine LeO.ite ?_ ?_)
   |(with_reducible refine LeO.bind ?_ (fun _=>?_))
   |exact ih0 _ _ _
   |exact LeO.none _
   |refine LeO.ite ?_ ?_
   |refine LeO.bind ?_ (fun _=>?_)
set_option maxHeartbeats 8000000 in
set_option maxRecDepth 100000 in
theorem zAi.calls (k:Nat) (A0:Option Addr) (c0:Nat) (l0:List Bool) (A1:Option Addr) (c1:Nat) (l1:List Bool) (r:Bool) (w:World) (hr0:Kd.C Kd.bool w A0 l0.length l0) (hc0:l0.length≤c0) (hr1:Kd.C Kd.bool w A1 l1.length l1) (hc1:l1.length≤c1) (h:zAi.f k l0 l1=some r) :
  Calls Tryd.prog 29 #[.slice A0 l0.length c0,.slice A1 l1.length c1] w fun e w'=>e = .returned (.bool r)∧zAl w w':=by
 have HR0:=aK_ hr0
 have HC0:=aK_ hc0
 clear hr0 hc0
 have HR1:=aK_ hr1
 have HC1:=aK_ hc1
 clear hr1 hc1
 have H:(if (l0.length:Int)=(l1.length:Int) then (zAi.l0 k l0 l1 0) else (some false))=some r:=h
 clear h
 by_cases c3:(l0.length:Int)=(l1.length:Int)
 ·rw [if_pos c3] at H
  have c3b0:((l0.length:Int) == (l1.length:Int))=true:=beq_iff_eq.mpr c3
  have c3b1:((l0.length:Int) != (l1.length:Int))=false:=bne_eq_false_iff_eq.mpr c3
  have c3b2:(l0.length == l1.length)=true:=by first|simpa using c3|(simp at c3 ⊢;omega)
  clear c3
  have H':=aK_ H
  clear H
  go_enter Tryd.func29,Tryd.ntmps29
  go_wp2
  repeat (go_quiet (fail);try go_wp2)
  (try simp only [Act.put,List.setIfInBounds_toArray,List.set_cons_zero,List.set_cons_succ])
  go_loopg [5] k (fun kq v5 w'=>∃ (x5_1:Int),v5 = .int .i64 x5_1∧zAg (zAi.l0 kq l0 l1 x5_1=some r)∧zAg (kq≤k)∧zAl w w')
  case atStart=>exact ⟨(0),(by first|rfl|(simp;done)|(simp [*];done)),H',⟨Nat.le_refl _⟩,by repeat (first|exact zAl.refl _|apply zAl.step)⟩
  case round =>
   clear H'
   try clear c1
   try clear c2
   try clear p2
   try clear c3
   try clear c3b0
   try clear c3b1
   try clear c3b2
   obtain ⟨x5_1,rfl,HA,HK1,⟨m1,rfl⟩⟩:=hrel
   cases gk with
   |zero=>exact absurd HA.out (by simp [zAi.l0])
   |succ k1 =>
    have H:=HA.out
    clear HA
    simp only [zAi.l0] at H
    by_cases c4:x5_1<(l0.length:Int)
    ·rw [if_pos c4] at H
     have c4b0:decide (x5_1<(l0.length:Int))=true:=decide_eq_true c4
     clear c4
     by_cases c5:0≤x5_1
     ·rw [if_pos c5] at H
      have c5b0:decide (0≤x5_1)=true:=decide_eq_true c5
      clear c5
      by_cases c6:x5_1<(l1.length:Int)
      ·rw [if_pos c6] at H
       have c6b0:decide (x5_1<(l1.length:Int))=true:=decide_eq_true c6
       clear c6
       by_cases c7:((rdOf false l0 x5_1) != (rdOf false l1 x5_1))=true
       ·rw [if_pos c7] at H
        have c7b0:((rdOf false l0 x5_1) != (rdOf false l1 x5_1))=true:=c7
        (try (have c7b1:decide ((rdOf false l0 x5_1)=(rdOf false l1 x5_1))=false:=by simpa using c7))
        (try (have c7b2:((rdOf false l0 x5_1) == (rdOf false l1 x5_1))=false:=by simpa using c7))
        (try (have c7b3 : ¬ ((rdOf false l0 x5_1)=(rdOf false l1 x5_1)):=by simpa using c7))
        clear c7
        obtain rfl:=Option.some.inj H
        have p486:0≤(x5_1:Int):=of_decide_eq_true (by first|(with_reducible assumption)|assumption)
        have q486:x5_1<(l0.length:Int):=of_decide_eq_true (by first|(with_reducible assumption)|assumption)
        obtain ⟨ad486,e486,hx486_0⟩:=Kd.at_bool HR0.out x5_1 p486 q486
        cases e486
        replace p486:=eq_true p486
        replace q486:=eq_true q486
        have p487:0≤(x5_1:Int):=of_decide_eq_true (by first|(with_reducible assumption)|assumption)
        have q487:x5_1<(l1.length:Int):=of_decide_eq_true (by first|(with_reducible assumption)|assumption)
        obtain ⟨ad487,e487,hx487_0⟩:=Kd.at_bool HR1.out x5_1 p487 q487
        cases e487
        replace p487:=eq_true p487
        replace q487:=eq_true q487
        go_wp2
        repeat (go_quiet (fail);try go_wp2)
        go_ret
        exact ⟨by first|rfl|(simp;done)|(simp [*];done),by repeat (first|exact zAl.refl _|apply zAl.step)⟩
       ·rw [if_neg c7] at H
        have c7b0:((rdOf false l0 x5_1) != (rdOf false l1 x5_1))=false:=by simpa using c7
        (try (have c7b1:decide ((rdOf false l0 x5_1)=(rdOf false l1 x5_1))=true:=by simpa using c7))
        (try (have c7b2:((rdOf false l0 x5_1) == (rdOf false l1 x5_1))=true:=by simpa using c7))
        clear c7
        have H':=aK_ H
        clear H
        have p486:0≤(x5_1:Int):=of_decide_eq_true (by first|(with_reducible assumption)|assumption)
        have q486:x5_1<(l0.length:Int):=of_decide_eq_true (by first|(with_reducible assumption)|assumption)
        obtain ⟨ad486,e486,hx486_0⟩:=Kd.at_bool HR0.out x5_1 p486 q486
        cases e486
        replace p486:=eq_true p486
        replace q486:=eq_true q486
        have p487:0≤(x5_1:Int):=of_decide_eq_true (by first|(with_reducible assumption)|assumption)
        have q487:x5_1<(l1.length:Int):=of_decide_eq_true (by first|(with_reducible assumption)|assumption)
        obtain ⟨ad487,e487,hx487_0⟩:=Kd.at_bool HR1.out x5_1 p487 q487
        cases e487
        replace p487:=eq_true p487
        replace q487:=eq_true q487
        go_wp2
        repeat (go_quiet (fail);try go_wp2)
        go_roundg k1
        case measure=>have:=HK1.out;omega
        case rel=>exact ⟨(wrap64 (x5_1+1)),(by first|rfl|(simp;done)|(simp [*];done)),H',⟨by have:=HK1.out;omega⟩,by repeat (first|exact zAl.refl _|apply zAl.step)⟩
      ·rw [if_neg c6] at H
       exact absurd H (by simp)
     ·rw [if_neg c5] at H
      exact absurd H (by simp)
    ·rw [if_neg c4] at H
     have c4b0:decide (x5_1<(l0.length:Int))=false:=decide_eq_false c4
     clear c4
     obtain rfl:=Option.some.inj H
     go_wp2
     repeat (go_quiet (fail);try go_wp2)
     go_ret
     exact ⟨by first|rfl|(simp;done)|(simp [*];done),by repeat (first|exact zAl.refl _|apply zAl.step)⟩
 ·rw [if_neg c3] at H
  have c3b0:((l0.length:Int) == (l1.length:Int))=false:=beq_eq_false_iff_ne.mpr c3
  have c3b1:((l0.length:Int) != (l1.length:Int))=true:=bne_iff_ne.mpr c3
  have c3b2:(l0.length == l1.length)=false:=by first|simpa using c3|(simp at c3 ⊢;omega)
  obtain rfl:=Option.some.inj H
  go_enter Tryd.func29,Tryd.ntmps29
  go_wp2
  repeat (go_quiet (fail);try go_wp2)
  go_ret
  exact ⟨by first|rfl|(simp;done)|(simp [*];done),by repeat (first|exact zAl.refl _|apply zAl.step)⟩
end Go.Proofs.YthbnigjckjkmnaaDoor.S

namespace Go.Proofs.YthbnigjckjkmnaaDoor.S
open Go.RowKit Go.Proofs.YthbnigjckjkmnaaDoorW.PrintWords Go.Proofs.YthbnigjckjkmnaaDoorW.PrintLast Go.Proofs.YthbnigjckjkmnaaDoorW.PrintMore
attribute [local go_sem] max2_int min2_int max_two min_two max_three min_three max_four min_four
mutual
def zAR.l0:Nat→List Int→Int→ByteArray→List (S47)→Int→List (S33)→Option (Int × Int)
 |0,_,_,_,_,_,_=>none
 |k+1,x6,x7,x518000,x518001,x518002,x518003=>if x7<(x518003.length:Int) then (if x6.length<17592186044416 then (zAR.l0 k (x6 ++ [0]) (wrap64 (x7+1)) x518000 x518001 x518002 x518003) else (none)) else (zAR.l1 k x6 0 0 x518000 x518001 x518002 x518003)
def zAR.l1:Nat→List Int→Int→Int→ByteArray→List (S47)→Int→List (S33)→Option (Int × Int)
 |0,_,_,_,_,_,_,_=>none
 |k+1,x6,x8,x9,x518000,x518001,x518002,x518003=>if x9<(x518003.length:Int) then (if 0≤x9 then (if ((zAG x518003 x9).f0)=15 then ((zAa.f k x518000 x518001 x518002 x518003 x9).bind fun t524=>(zAR.l2 k x6 x8 x9 t524 x518000 x518001 x518002 x518003)) else (zAR.l1 k x6 x8 (wrap64 (x9+1)) x518000 x518001 x518002 x518003)) else (none)) else (some (x8,0))
def zAR.l2:Nat→List Int→Int→Int→Int→ByteArray→List (S47)→Int→List (S33)→Option (Int × Int)
 |0,_,_,_,_,_,_,_,_=>none
 |k+1,x6,x8,x9,x10,x518000,x518001,x518002,x518003=>if x10≤x9 then (if 0≤x10 then (if x10<(x6.length:Int) then ((some (x6.set (x10:Int).toNat (wrap64 ((rd x6 x10)+1)):List Int)).bind fun y526=>(if (rd y526 x10) > x8 then (zAR.l2 k y526 (rd y526 x10) x9 (wrap64 (x10+1)) x518000 x518001 x518002 x518003) else (zAR.l2 k y526 x8 x9 (wrap64 (x10+1)) x518000 x518001 x518002 x518003))) else (none)) else (none)) else (zAR.l1 k x6 x8 (wrap64 (x9+1)) x518000 x518001 x518002 x518003)
end
def zAR.f (k:Nat) (a0_0:ByteArray) (l0_1:List (S47)) (a0_2:Int) (l0_3:List (S33)):Option (Int × Int):=(zAN.f k a0_0 l0_1 a0_2 l0_3).bind fun bt518=>(if bt518.2=0 then (zAR.l0 k ([]:List Int) 0 a0_0 l0_1 a0_2 l0_3) else (some (0,bt518.2)))
theorem zAR.mono_l:∀ k,(∀ y0 y1 y2 y3 y4 y5,LeO (zAR.l0 k y0 y1 y2 y3 y4 y5) (zAR.l0 (k+1) y0 y1 y2 y3 y4 y5))∧(∀ y0 y1 y2 y3 y4 y5 y6,LeO (zAR.l1 k y0 y1 y2 y3 y4 y5 y6) (zAR.l1 (k+1) y0 y1 y2 y3 y4 y5 y6))∧(∀ y0 y1 y2 y3 y4 y5 y6 y7,LeO (zAR.l2 k y0 y1 y2 y3 y4 y5 y6 y7) (zAR.l2 (k+1) y0 y1 y2 y3 y4 y5 y6 y7))
 |0=>⟨fun _ _ _ _ _ _ r h=>by simp [zAR.l0] at h,fun _ _ _ _ _ _ _ r h=>by simp [zAR.l1] at h,fun _ _ _ _ _ _ _ _ r h=>by simp [zAR.l2] at h⟩
 |k+1=>by
  obtain ⟨ih0,ih1,ih2⟩:=zAR.mono_l k
  refine ⟨?_,?_,?_⟩
  ·intro y0 y1 y2 y3 y4 y5
   unfold zAR.l0
   repeat' first
   |(with_reducible exact ih0 _ _ _ _ _ _)
   |(with_reducible exact ih1 _ _ _ _ _ _ _)
   |(with_reducible exact ih2 _ _ _ _ _ _ _ _)
   |(with_reducible exact zAN.mono _ _ _ _ _)
   |(with_reducible exact zAa.mono _ _ _ _ _ _)
   |(with_reducible exact LeO.refl _)
   |(with_reducible exact LeO.none _)
   |(with_reducible refine LeO.ite ?_ ?_)
   |(with_reducible refine LeO.bind ?_ (fun _=>?_))
   |exact ih0 _ _ _ _ _ _
   |exact ih1 _ _ _ _ _ _ _
   |exact ih2 _ _ _ _ _ _ _ _
   |exact zAN.mono _ _ _ _ _
   |exact zAa.mono _ _ _ _ _ _
   |exact LeO.none _
   |refine LeO.ite ?_ ?_
   |refine LeO.bind ?_ (fun _=>?_)
  ·intro y0 y1 y2 y3 y4 y5 y6
   unfold zAR.l1
   repeat' first
   |(with_reducible exact ih0 _ _ _ _ _ _)
   |(with_reducible exact ih1 _ _ _ _ _ _ _)
   |(with_reducible exact ih2 _ _ _ _ _ _ _ _)
   |(with_reducible exact zAN.mono _ _ _ _ _)
   |(with_reducible exact zAa.mono _ _ _ _ _ _)
   |(with_reducible exact LeO.refl _)
   |(with_reducible exact LeO.none _)
   |(with_reducible refine LeO.ite ?_ ?_)
   |(with_reducible refine LeO.bind ?_ (fun _=>?_))
   |exact ih0 _ _ _ _ _ _
   |exact ih1 _ _ _ _ _ _ _
   |exact ih2 _ _ _ _ _ _ _ _
   |exact zAN.mono _ _ _ _ _
   |exact zAa.mono _ _ _ _ _ _
   |exact LeO.none _
   |refine LeO.ite ?_ ?_
   |refine LeO.bind ?_ (fun _=>?_)
  ·intro y0 y1 y2 y3 y4 y5 y6 y7
   unfold zAR.l2
   repeat' first
   |(with_reducible exact ih0 _ _ _ _ _ _)
   |(with_reducible exact ih1 _ _ _ _ _ _ _)
   |(with_reducible exact ih2 _ _ _ _ _ _ _ _)
   |(with_reducible exact zAN.mono _ _ _ _ _)
   |(with_reducible exact zAa.mono _ _ _ _ _ _)
   |(with_reducible exact LeO.refl _)
   |(with_reducible exact LeO.none _)
   |(with_reducible refine LeO.ite ?_ ?_)
   |(with_reducible refine LeO.bind ?_ (fun _=>?_))
   |exact ih0 _ _ _ _ _ _
   |exact ih1 _ _ _ _ _ _ _
   |exact ih2 _ _ _ _ _ _ _ _
   |exact zAN.mono _ _ _ _ _
   |exact zAa.mono _ _ _ _ _ _
   |exact LeO.none _
   |refine LeO.ite ?_ ?_
   |refine LeO.bind ?_ (fun _=>?_)
theorem zAR.mono:∀ a0 a1 a2 a3 k,LeO (zAR.f k a0 a1 a2 a3) (zAR.f (k+1) a0 a1 a2 a3):=by
 intro a0 a1 a2 a3 k
 obtain ⟨ih0,ih1,ih2⟩:=zAR.mono_l k
 unfold zAR.f
 repeat' first
   |(with_reducible exact ih0 _ _ _ _ _ _)
   |(with_reducible exact ih1 _ _ _ _ _ _ _)
   |(with_reducible exact ih2 _ _ _ _ _ _ _ _)
   |(with_reducible exact zAN.mono _ _ _ _ _)
   |(with_reducible exact zAa.mono _ _ _ _ _ _)
   |(with_reducible exact LeO.refl _)
   |(with_reducible exact LeO.none _)
   |(with_reducible refine LeO.ite ?_ ?_)
   |(with_reducible refine LeO.bind ?_ (fun _=>?_))
   |exact ih0 _ _ _ _ _ _
   |exact ih1 _ _ _ _ _ _ _
   |exact ih2 _ _ _ _ _ _ _ _
   |exact zAN.mono _ _ _ _ _
   |exact zAa.mono _ _ _ _ _ _
   |exact LeO.none _
   |refine LeO.ite ?_ ?_
   |refine LeO.bind ?_ (fun _=>?_)
set_option maxHeartbeats 8000000 in
set_option maxRecDepth 100000 in
theorem zAR.calls (k:Nat) (a0_0:ByteArray) (A0_1:Option Addr) (c0_1:Nat) (l0_1:List (S47)) (a0_2:Int) (A0_3:Option Addr) (c0_3:Nat) (l0_3:List (S33)) (r1:Int) (r2:Int) (w:World) (hr0_1:Kd.C k47 w A0_1 l0_1.length l0_1) (hc0_1:l0_1.length≤c0_1) (hr0_3:Kd.C k33 w A0_3 l0_3.length l0_3) (hc0_3:l0_3.length≤c0_3) (h:zAR.f k a0_0 l0_1 a0_2 l0_3=some (r1,r2)) :
  Calls Tryd.prog 31 #[.agg #[.string a0_0,.slice A0_1 l0_1.length c0_1,.int .i64 a0_2,.slice A0_3 l0_3.length c0_3]] w fun e w'=>e = .returned (.tuple #[.int .i64 r1,.int .i64 r2])∧Below w.heap.size w w':=by
 have hu25:=Tryd.underlying25
 have HR0_1:=aK_ hr0_1
 have HC0_1:=aK_ hc0_1
 clear hr0_1 hc0_1
 have HR0_3:=aK_ hr0_3
 have HC0_3:=aK_ hc0_3
 clear hr0_3 hc0_3
 have HB:=aK_ (Below.refl w.heap.size w)
 have H:((zAN.f k a0_0 l0_1 a0_2 l0_3).bind fun bt518=>(if bt518.2=0 then (zAR.l0 k ([]:List Int) 0 a0_0 l0_1 a0_2 l0_3) else (some (0,bt518.2))))=some (r1,r2):=h
 clear h
 replace H:=Option.bind_eq_some_iff.mp H
 obtain ⟨⟨t518,t519⟩,A20,H⟩:=H
 replace H:(if t519=0 then (zAR.l0 k ([]:List Int) 0 a0_0 l0_1 a0_2 l0_3) else (some (0,t519)))=some (r1,r2):=H
 have A2:=aK_ A20
 clear A20
 by_cases c3:t519=0
 ·rw [if_pos c3] at H
  have c3b0:(t519 == 0)=true:=beq_iff_eq.mpr c3
  have c3b1:(t519 != 0)=false:=bne_eq_false_iff_eq.mpr c3
  clear c3
  have H':=aK_ H
  clear H
  go_enter Tryd.func31,Tryd.ntmps31
  go_wp2_with (first|((with_reducible refine zAk (N:=1) rfl ?_);refine zAh ?hg (N:=1) ?hd (cs:=#[.string a0_0,.slice A0_1 l0_1.length c0_1,.int .i64 a0_2,.slice A0_3 l0_3.length c0_3]) (t:=25) ?hr ?_;(case hd=>rfl);(case hg=>rfl);(case hr=>first|(go_simp;done)|(go_simp;rfl));intro gb517 hg w4 hbox hb;have n0_:=aK_ (zAM (by repeat (first|(with_reducible first|exact HB.out|apply zAB|apply zAA|apply zAD)|exact HB.out)) hb);have n1_:=aK_ (hbox);have n2_:=aK_ ((by rw [hg];exact (zAK (by repeat (first|(with_reducible first|exact HB.out|apply zAB|apply zAA|apply zAD)|exact HB.out))):w.heap.size≤gb517));have n3_:=aK_ ((by rw [hg];exact (zAK (by repeat (first|(with_reducible first|exact HB.out|apply zAB|apply zAA|apply zAD)|exact HB.out))):w.heap.size≤gb517));clear HB;have HB:=n0_;have BK517:=n1_;have GW517:=n2_;have GE517:=n3_;clear n0_ n1_ n2_ n3_;clear hb hbox hg;have hcz5_0:w4.cell? ⟨gb517,0,none⟩=some (.string a0_0):=(zAE BK517.out 0).trans rfl;have hcz5_1:w4.cell? ⟨gb517,1,none⟩=some (.slice A0_1 l0_1.length c0_1):=(zAE BK517.out 1).trans rfl;have hcz5_2:w4.cell? ⟨gb517,2,none⟩=some (.int .i64 a0_2):=(zAE BK517.out 2).trans rfl;have hcz5_3:w4.cell? ⟨gb517,3,none⟩=some (.slice A0_3 l0_3.length c0_3):=(zAE BK517.out 3).trans rfl;have hfz5_0:=zAC BK517.out 0;have hfz5_1:=zAC BK517.out 1;have hfz5_2:=zAC BK517.out 2;have hfz5_3:=zAC BK517.out 3)|((with_reducible refine zAf (f:=17) rfl ?_);refine goesL_ (some 13) rfl rfl Tryd.func17 (by kernel_rfl) rfl #[.agg #[.string a0_0,.slice A0_1 l0_1.length c0_1,.int .i64 a0_2,.slice A0_3 l0_3.length c0_3]] rfl (by (try simp only [List.map_toArray,List.map_cons,List.map_nil]);first|done|rfl|(simp only [List.length_drop,List.length_take];rfl)) ?_;(with_reducible refine (zAN.calls k a0_0 _ _ l0_1 a0_2 _ _ l0_3 t518 t519 _ ?side1 ?side2 ?side3 ?side4 A2.out).mono ?_);(case side1=>repeat (first|exact (Kd.C_below HR0_1.out HB.out)|(with_reducible refine Kd.C_alloc ?_ _)|(with_reducible refine Kd.C_drewN ?_ _)|(with_reducible refine Kd.C_drew ?_)));(case side2=>exact HC0_1.out);(case side3=>repeat (first|exact (Kd.C_below HR0_3.out HB.out)|(with_reducible refine Kd.C_alloc ?_ _)|(with_reducible refine Kd.C_drewN ?_ _)|(with_reducible refine Kd.C_drew ?_)));(case side4=>exact HC0_3.out);rintro e w6 ⟨rfl,hb⟩;refine ⟨_,rfl,?_⟩;have n0_:=aK_ (zAb (g:=gb517) (o:=.cells #[.string a0_0,.slice A0_1 l0_1.length c0_1,.int .i64 a0_2,.slice A0_3 l0_3.length c0_3] 25 (0,0)) (by (with_reducible repeat (first|refine zAH ?_ _|refine zAJ ?_|refine zAI ?_ _));exact BK517.out) hb);have n1_:=aK_ (zAM (by repeat (first|(with_reducible first|exact HB.out|apply zAB|apply zAA|apply zAD|refine zAF ?_ GE517.out)|exact HB.out)) hb);clear BK517;clear HB;have BK517:=n0_;have HB:=n1_;clear n0_ n1_;(try clear hb);(try clear hb2);(try clear hk);(try clear hi)))
  (try simp only [Act.put,List.setIfInBounds_toArray,List.set_cons_zero,List.set_cons_succ])
  go_loopg [6,7] k (fun kq v6 v7 w'=>∃ (x6_1:List Int) (x7_1:Int),v7 = .int .i64 x7_1∧zAg (zAR.l0 kq x6_1 x7_1 a0_0 l0_1 a0_2 l0_3=some (r1,r2))∧zAg (kq≤k)∧zAg (Kd.R (Kd.int .i64) 3 w' w.heap.size (fun _=>True) v6 x6_1)∧zAg (w'.heap[gb517]?=some (.cells #[.string a0_0,(.slice A0_1 l0_1.length c0_1),.int .i64 a0_2,(.slice A0_3 l0_3.length c0_3)] 25 (0,0)))∧zAg (Below w.heap.size w w'))
  case atStart=>exact ⟨(([]:List Int)),(0),(by first|rfl|(simp;done)|(simp [*];done)),H',⟨Nat.le_refl _⟩,⟨by first|exact Kd.R_nil _ _ _ _ _|exact Kd.N_nil _ _ _ _ _|exact Kd.V_nil _ _ _ _ _|exact Kd.Q_nil _ _ _ _ _|exact Kd.S_nil _ _ _ _ _⟩,⟨by (with_reducible repeat (first|refine zAH ?_ _|refine zAJ ?_|refine zAI ?_ _));exact BK517.out⟩,⟨by repeat (first|(with_reducible first|exact HB.out|apply zAB|apply zAA|apply zAD|refine zAF ?_ GE517.out)|exact HB.out)⟩⟩
  case round =>
   clear H'
   try clear c1
   try clear p2
   try clear c3
   try clear c3b0
   try clear c3b1
   try clear hcz5_0
   try clear hcz5_1
   try clear hcz5_2
   try clear hcz5_3
   try clear hfz5_0
   try clear hfz5_1
   try clear hfz5_2
   try clear hfz5_3
   obtain ⟨x6_1,x7_1,rfl,HA,HK1,HO_6,BK517,HB⟩:=hrel
   cases gk with
   |zero=>exact absurd HA.out (by simp [zAR.l0])
   |succ k1 =>
    have H:=HA.out
    clear HA
    simp only [zAR.l0] at H
    by_cases c7:x7_1<(l0_3.length:Int)
    ·rw [if_pos c7] at H
     have c7b0:decide (x7_1<(l0_3.length:Int))=true:=decide_eq_true c7
     clear c7
     by_cases c8:x6_1.length<17592186044416
     ·rw [if_pos c8] at H
      have LMc8:=aK_ c8
      clear c8
      obtain ⟨y520,hy520⟩:∃ y_:List Int,y_=(x6_1 ++ [0]):=⟨_,rfl⟩
      replace H:(zAR.l0 k1 y520 (wrap64 (x7_1+1)) a0_0 l0_1 a0_2 l0_3)=some (r1,r2):=by first|(rw [hy520];with_reducible exact H)|(have H2_:=(Option.bind_some _ _).symm.trans H;rw [hy520];with_reducible exact H2_)|(have H2_:=(Option.bind_some _ _).symm.trans H;with_reducible exact H2_)|with_reducible exact H|(rw [hy520];exact H)|exact H
      have Ny520:=aK_ hy520
      clear hy520
      have H':=aK_ H
      clear H
      have hcz9_0:wr.cell? ⟨gb517,0,none⟩=some (.string a0_0):=(zAE BK517.out 0).trans rfl
      have hcz9_1:wr.cell? ⟨gb517,1,none⟩=some (.slice A0_1 l0_1.length c0_1):=(zAE BK517.out 1).trans rfl
      have hcz9_2:wr.cell? ⟨gb517,2,none⟩=some (.int .i64 a0_2):=(zAE BK517.out 2).trans rfl
      have hcz9_3:wr.cell? ⟨gb517,3,none⟩=some (.slice A0_3 l0_3.length c0_3):=(zAE BK517.out 3).trans rfl
      have hfz9_0:=zAC BK517.out 0
      have hfz9_1:=zAC BK517.out 1
      have hfz9_2:=zAC BK517.out 2
      have hfz9_3:=zAC BK517.out 3
      go_wp2_with (first|((with_reducible refine gate_builtin (b:=.append) (xs:=#[.tmp 26,.tmp 27]) rfl ?_);at_builtin;refine Kd.R_append (Kd.int .i64) (w0:=w) w.heap.size rfl (.tmp 26) (.tmp 27) 36 3 (.int .i64 0) 8 rfl Tryd.underlying36 info3 rfl (by decide) (by omega) u6 x6_1 0 [.int .i64 0] (fun _=>True) (fun _=>False) rfl rfl ?aP (fun _ hk=>hk.elim) ?aF ?aO ?aB ?aS ?aL ?_;(case aP=>exact rfl);(case aB=>exact (by repeat (first|(with_reducible first|exact HB.out|apply zAB|apply zAA|apply zAD|refine zAF ?_ GE517.out)|exact HB.out)));(case aF=>exact (fun _ _=>trivial));(case aO=>exact (by (with_reducible repeat (first|apply Kd.R_alloc|apply Kd.R_drewN|apply Kd.R_drew));exact HO_6.out));(case aS=>exact (zAK (by repeat (first|(with_reducible first|exact HB.out|apply zAB|apply zAA|apply zAD|refine zAF ?_ GE517.out)|exact HB.out))));(case aL=>have:=LMc8.out;omega);intro v521 w10 ho hb hg hat;rw [← Ny520.out] at ho;have n0_:=aK_ (blk_grown (g:=gb517) (o:=.cells #[.string a0_0,.slice A0_1 l0_1.length c0_1,.int .i64 a0_2,.slice A0_3 l0_3.length c0_3] 25 (0,0)) (by (with_reducible repeat (first|refine zAH ?_ _|refine zAJ ?_|refine zAI ?_ _));exact BK517.out) hg (Kd.R_ne HO_6.out BK517.out (by decide)));have n1_:=aK_ (hb);have n2_:=aK_ (ho);clear BK517;clear HB;clear HO_6;have BK517:=n0_;have HB:=n1_;have HO522:=n2_;clear n0_ n1_ n2_;clear ho hb hg hat))
      go_roundg k1
      case measure=>have:=HK1.out;omega
      case rel=>exact ⟨(y520),(wrap64 (x7_1+1)),(by first|rfl|(simp;done)|(simp [*];done)),H',⟨by have:=HK1.out;omega⟩,⟨by (with_reducible repeat (first|apply Kd.R_alloc|apply Kd.R_drewN|apply Kd.R_drew));exact HO522.out⟩,⟨by (with_reducible repeat (first|refine zAH ?_ _|refine zAJ ?_|refine zAI ?_ _));exact BK517.out⟩,⟨by repeat (first|(with_reducible first|exact HB.out|apply zAB|apply zAA|apply zAD|refine zAF ?_ GE517.out)|exact HB.out)⟩⟩
     ·rw [if_neg c8] at H
      exact absurd H (by simp)
    ·rw [if_neg c7] at H
     have c7b0:decide (x7_1<(l0_3.length:Int))=false:=decide_eq_false c7
     clear c7
     have H':=aK_ H
     clear H
     have hcz11_0:wr.cell? ⟨gb517,0,none⟩=some (.string a0_0):=(zAE BK517.out 0).trans rfl
     have hcz11_1:wr.cell? ⟨gb517,1,none⟩=some (.slice A0_1 l0_1.length c0_1):=(zAE BK517.out 1).trans rfl
     have hcz11_2:wr.cell? ⟨gb517,2,none⟩=some (.int .i64 a0_2):=(zAE BK517.out 2).trans rfl
     have hcz11_3:wr.cell? ⟨gb517,3,none⟩=some (.slice A0_3 l0_3.length c0_3):=(zAE BK517.out 3).trans rfl
     have hfz11_0:=zAC BK517.out 0
     have hfz11_1:=zAC BK517.out 1
     have hfz11_2:=zAC BK517.out 2
     have hfz11_3:=zAC BK517.out 3
     go_wp2
     (try simp only [Act.put,List.setIfInBounds_toArray,List.set_cons_zero,List.set_cons_succ])
     go_loopg [8,9] k1 (fun kq v8 v9 w'=>∃ (x6_2:List Int) (x8_2:Int) (x9_2:Int),v8 = .int .i64 x8_2∧v9 = .int .i64 x9_2∧zAg (zAR.l1 kq x6_2 x8_2 x9_2 a0_0 l0_1 a0_2 l0_3=some (r1,r2))∧zAg (kq≤k1)∧zAg (Kd.R (Kd.int .i64) 3 w' w.heap.size (fun _=>True) u6 x6_2)∧zAg (w'.heap[gb517]?=some (.cells #[.string a0_0,(.slice A0_1 l0_1.length c0_1),.int .i64 a0_2,(.slice A0_3 l0_3.length c0_3)] 25 (0,0)))∧zAg (Below w.heap.size w w'))
     case atStart=>exact ⟨(x6_1),(0),(0),(by first|rfl|(simp;done)|(simp [*];done)),(by first|rfl|(simp;done)|(simp [*];done)),H',⟨Nat.le_refl _⟩,⟨by (with_reducible repeat (first|apply Kd.R_alloc|apply Kd.R_drewN|apply Kd.R_drew));exact HO_6.out⟩,⟨by (with_reducible repeat (first|refine zAH ?_ _|refine zAJ ?_|refine zAI ?_ _));exact BK517.out⟩,⟨by repeat (first|(with_reducible first|exact HB.out|apply zAB|apply zAA|apply zAD|refine zAF ?_ GE517.out)|exact HB.out)⟩⟩
     case round =>
      clear H'
      try clear c1
      try clear p2
      try clear c3
      try clear c3b0
      try clear c3b1
      try clear p6
      try clear c7
      try clear c7b0
      try clear c8
      try clear hcz11_0
      try clear hcz11_1
      try clear hcz11_2
      try clear hcz11_3
      try clear hcz5_0
      try clear hcz5_1
      try clear hcz5_2
      try clear hcz5_3
      try clear hcz9_0
      try clear hcz9_1
      try clear hcz9_2
      try clear hcz9_3
      try clear hfz11_0
      try clear hfz11_1
      try clear hfz11_2
      try clear hfz11_3
      try clear hfz5_0
      try clear hfz5_1
      try clear hfz5_2
      try clear hfz5_3
      try clear hfz9_0
      try clear hfz9_1
      try clear hfz9_2
      try clear hfz9_3
      try clear p2
      obtain ⟨x6_2,x8_2,x9_2,rfl,rfl,HA,HK2,HO_6,BK517,HB⟩:=hrel
      cases gk with
      |zero=>exact absurd HA.out (by simp [zAR.l1])
      |succ k2 =>
       have H:=HA.out
       clear HA
       simp only [zAR.l1] at H
       by_cases c12:x9_2<(l0_3.length:Int)
       ·rw [if_pos c12] at H
        have c12b0:decide (x9_2<(l0_3.length:Int))=true:=decide_eq_true c12
        clear c12
        by_cases c13:0≤x9_2
        ·rw [if_pos c13] at H
         have c13b0:decide (0≤x9_2)=true:=decide_eq_true c13
         clear c13
         by_cases c14:((zAG l0_3 x9_2).f0)=15
         ·rw [if_pos c14] at H
          have c14b0:(((zAG l0_3 x9_2).f0) == 15)=true:=beq_iff_eq.mpr c14
          have c14b1:(((zAG l0_3 x9_2).f0) != 15)=false:=bne_eq_false_iff_eq.mpr c14
          clear c14
          replace H:=Option.bind_eq_some_iff.mp H
          obtain ⟨t524,A150,H⟩:=H
          replace H:(zAR.l2 k2 x6_2 x8_2 x9_2 t524 a0_0 l0_1 a0_2 l0_3)=some (r1,r2):=H
          have A15:=aK_ A150
          clear A150
          have H':=aK_ H
          clear H
          have hcz16_0:wr.cell? ⟨gb517,0,none⟩=some (.string a0_0):=(zAE BK517.out 0).trans rfl
          have hcz16_1:wr.cell? ⟨gb517,1,none⟩=some (.slice A0_1 l0_1.length c0_1):=(zAE BK517.out 1).trans rfl
          have hcz16_2:wr.cell? ⟨gb517,2,none⟩=some (.int .i64 a0_2):=(zAE BK517.out 2).trans rfl
          have hcz16_3:wr.cell? ⟨gb517,3,none⟩=some (.slice A0_3 l0_3.length c0_3):=(zAE BK517.out 3).trans rfl
          have hfz16_0:=zAC BK517.out 0
          have hfz16_1:=zAC BK517.out 1
          have hfz16_2:=zAC BK517.out 2
          have hfz16_3:=zAC BK517.out 3
          have p523:0≤(x9_2:Int):=of_decide_eq_true (by first|(with_reducible assumption)|assumption)
          have q523:x9_2<(l0_3.length:Int):=of_decide_eq_true (by first|(with_reducible assumption)|assumption)
          obtain ⟨ad523,A523_4,c523_4,e523,hx523_0,hx523_1,hx523_2,hx523_3,hx523_4,hx523_5,hl523_4,hi523_4⟩:=at_T33 HR0_3.out x9_2 p523 q523
          cases e523
          replace hx523_0:=(HB.out.cell (World.block_lt_of_cell? w _ hx523_0)).trans hx523_0
          replace hx523_1:=(HB.out.cell (World.block_lt_of_cell? w _ hx523_1)).trans hx523_1
          replace hx523_2:=(HB.out.cell (World.block_lt_of_cell? w _ hx523_2)).trans hx523_2
          replace hx523_3:=(HB.out.cell (World.block_lt_of_cell? w _ hx523_3)).trans hx523_3
          replace hx523_4:=(HB.out.cell (World.block_lt_of_cell? w _ hx523_4)).trans hx523_4
          replace hx523_5:=(HB.out.cell (World.block_lt_of_cell? w _ hx523_5)).trans hx523_5
          have HR523_4:=aK_ hi523_4
          have HC523_4:=aK_ hl523_4
          clear hi523_4 hl523_4
          replace p523:=eq_true p523
          replace q523:=eq_true q523
          go_wp2_with (first|((with_reducible refine zAf (f:=50) rfl ?_);refine goesL_ (some 45) rfl rfl Tryd.func50 (by kernel_rfl) rfl #[.agg #[.string a0_0,.slice A0_1 l0_1.length c0_1,.int .i64 a0_2,.slice (some ad523) l0_3.length c0_3],.int .i64 x9_2] rfl (by (try simp only [List.map_toArray,List.map_cons,List.map_nil]);first|done|rfl|(simp only [List.length_drop,List.length_take];rfl)) ?_;(with_reducible refine (zAa.calls k2 a0_0 _ _ l0_1 a0_2 _ _ l0_3 x9_2 t524 _ ?side1 ?side2 ?side3 ?side4 A15.out).mono ?_);(case side1=>repeat (first|exact (Kd.C_below HR0_1.out HB.out)|(with_reducible refine Kd.C_alloc ?_ _)|(with_reducible refine Kd.C_drewN ?_ _)|(with_reducible refine Kd.C_drew ?_)));(case side2=>exact HC0_1.out);(case side3=>repeat (first|exact (Kd.C_below HR0_3.out HB.out)|(with_reducible refine Kd.C_alloc ?_ _)|(with_reducible refine Kd.C_drewN ?_ _)|(with_reducible refine Kd.C_drew ?_)));(case side4=>exact HC0_3.out);rintro e w17 ⟨rfl,hb⟩;refine ⟨_,rfl,?_⟩;have n0_:=aK_ (Kd.R_below (by (with_reducible repeat (first|apply Kd.R_alloc|apply Kd.R_drewN|apply Kd.R_drew));exact HO_6.out) hb);have n1_:=aK_ (zAb (g:=gb517) (o:=.cells #[.string a0_0,.slice A0_1 l0_1.length c0_1,.int .i64 a0_2,.slice (some ad523) l0_3.length c0_3] 25 (0,0)) (by (with_reducible repeat (first|refine zAH ?_ _|refine zAJ ?_|refine zAI ?_ _));exact BK517.out) hb);have n2_:=aK_ (zAM (by repeat (first|(with_reducible first|exact HB.out|apply zAB|apply zAA|apply zAD|refine zAF ?_ GE517.out)|exact HB.out)) hb);clear HO_6;clear BK517;clear HB;have HO_6:=n0_;have BK517:=n1_;have HB:=n2_;clear n0_ n1_ n2_;(try clear hb);(try clear hb2);(try clear hk);(try clear hi)))
          (try simp only [Act.put,List.setIfInBounds_toArray,List.set_cons_zero,List.set_cons_succ])
          go_loopg [8,10] k2 (fun kq v8 v10 w'=>∃ (x6_3:List Int) (x8_3:Int) (x10_3:Int),v8 = .int .i64 x8_3∧v10 = .int .i64 x10_3∧zAg (zAR.l2 kq x6_3 x8_3 x9_2 x10_3 a0_0 l0_1 a0_2 l0_3=some (r1,r2))∧zAg (kq≤k2)∧zAg (Kd.R (Kd.int .i64) 3 w' w.heap.size (fun _=>True) u6 x6_3)∧zAg (w'.heap[gb517]?=some (.cells #[.string a0_0,(.slice A0_1 l0_1.length c0_1),.int .i64 a0_2,(.slice (some ad523) l0_3.length c0_3)] 25 (0,0)))∧zAg (Below w.heap.size w w'))
          case atStart=>exact ⟨(x6_2),(x8_2),(t524),(by first|rfl|(simp;done)|(simp [*];done)),(by first|rfl|(simp;done)|(simp [*];done)),H',⟨Nat.le_refl _⟩,⟨by (with_reducible repeat (first|apply Kd.R_alloc|apply Kd.R_drewN|apply Kd.R_drew));exact HO_6.out⟩,⟨by (with_reducible repeat (first|refine zAH ?_ _|refine zAJ ?_|refine zAI ?_ _));exact BK517.out⟩,⟨by repeat (first|(with_reducible first|exact HB.out|apply zAB|apply zAA|apply zAD|refine zAF ?_ GE517.out)|exact HB.out)⟩⟩
          case round =>
           clear H'
           try clear c1
           try clear p2
           try clear c3
           try clear c3b0
           try clear c3b1
           try clear c5
           try clear p5
           try clear q5
           try clear hx5
           try clear p6
           try clear c7
           try clear c7b0
           try clear c8
           try clear c12
           try clear c12b0
           try clear c13
           try clear c13b0
           try clear c14
           try clear c14b0
           try clear c14b1
           try clear c17
           try clear hcz11_0
           try clear hcz11_1
           try clear hcz11_2
           try clear hcz11_3
           try clear hcz16_0
           try clear hcz16_1
           try clear hcz16_2
           try clear hcz16_3
           try clear hcz5_0
           try clear hcz5_1
           try clear hcz5_2
           try clear hcz5_3
           try clear hcz9_0
           try clear hcz9_1
           try clear hcz9_2
           try clear hcz9_3
           try clear hfz11_0
           try clear hfz11_1
           try clear hfz11_2
           try clear hfz11_3
           try clear hfz16_0
           try clear hfz16_1
           try clear hfz16_2
           try clear hfz16_3
           try clear hfz5_0
           try clear hfz5_1
           try clear hfz5_2
           try clear hfz5_3
           try clear hfz9_0
           try clear hfz9_1
           try clear hfz9_2
           try clear hfz9_3
           try clear hx523_0
           try clear hx523_1
           try clear hx523_2
           try clear hx523_3
           try clear hx523_4
           try clear hx523_5
           try clear p2
           try clear p523
           try clear p6
           try clear q523
           obtain ⟨x6_3,x8_3,x10_3,rfl,rfl,HA,HK3,HO_6,BK517,HB⟩:=hrel
           cases gk with
           |zero=>exact absurd HA.out (by simp [zAR.l2])
           |succ k3 =>
            have H:=HA.out
            clear HA
            simp only [zAR.l2] at H
            by_cases c18:x10_3≤x9_2
            ·rw [if_pos c18] at H
             have c18b0:decide (x10_3≤x9_2)=true:=decide_eq_true c18
             clear c18
             by_cases c19:0≤x10_3
             ·rw [if_pos c19] at H
              have c19b0:decide (0≤x10_3)=true:=decide_eq_true c19
              clear c19
              by_cases c20:x10_3<(x6_3.length:Int)
              ·rw [if_pos c20] at H
               have c20b0:decide (x10_3<(x6_3.length:Int))=true:=decide_eq_true c20
               clear c20
               obtain ⟨y526,hy526⟩:∃ y_:List Int,y_=(x6_3.set (x10_3:Int).toNat (wrap64 ((rd x6_3 x10_3)+1))):=⟨_,rfl⟩
               replace H:(if (rd y526 x10_3) > x8_3 then (zAR.l2 k3 y526 (rd y526 x10_3) x9_2 (wrap64 (x10_3+1)) a0_0 l0_1 a0_2 l0_3) else (zAR.l2 k3 y526 x8_3 x9_2 (wrap64 (x10_3+1)) a0_0 l0_1 a0_2 l0_3))=some (r1,r2):=by first|(rw [hy526];with_reducible exact H)|(have H2_:=(Option.bind_some _ _).symm.trans H;rw [hy526];with_reducible exact H2_)|(have H2_:=(Option.bind_some _ _).symm.trans H;with_reducible exact H2_)|with_reducible exact H|(rw [hy526];exact H)|exact H
               have Ny526:=aK_ hy526
               clear hy526
               by_cases c22:(rd y526 x10_3) > x8_3
               ·rw [if_pos c22] at H
                have c22b0:decide (x8_3<(rd y526 x10_3))=true:=decide_eq_true c22
                clear c22
                have H':=aK_ H
                clear H
                obtain ⟨Ao23,co23,eo23⟩:=Kd.R_slice HO_6.out
                subst eo23
                have p525:0≤(x10_3:Int):=of_decide_eq_true (by first|(with_reducible assumption)|assumption)
                have q525:x10_3<(x6_3.length:Int):=of_decide_eq_true (by first|(with_reducible assumption)|assumption)
                obtain ⟨ad525,e525,hx525_0⟩:=Kd.at_int (Kd.R_reads' HO_6.out).2.2 x10_3 p525 q525
                cases e525
                replace p525:=eq_true p525
                replace q525:=eq_true q525
                have p21:0≤(x10_3:Int):=of_decide_eq_true (by first|(with_reducible assumption)|assumption)
                have q21:(x10_3:Int)<((x6_3.length:Int):Int):=of_decide_eq_true (by first|(with_reducible assumption)|assumption)
                obtain ⟨go21,co21,eo21,gb21,gl21,cl21,HG21⟩:=Kd.R_form HO_6.out (by omega)
                (first|cases eo21|(injection eo21 with ea_ en_ ec_;(first|subst ea_|(injection ea_ with ea_;subst ea_));subst ec_;clear en_))
                have GB21:=aK_ gb21
                have GG21:=aK_ HG21
                clear gb21 gl21 HG21
                (first|simp only [add_plain] at hx525_0|skip)
                obtain ⟨hx21_0,hf21_0⟩:=Kd.R_celln 0 HO_6.out (x10_3:Int) p21 q21
                replace p21:=eq_true p21
                replace q21:=eq_true q21
                have HP24:=Kd.R_putg HO_6.out (x10_3:Int) (wrap64 ((rd x6_3 x10_3)+1))
                go_wp2_with (first|((with_reducible refine gate_store (t:=3) (p:=56) rfl ?_);refine store_event (t:=3) (p:=56) (v:=?vo_w25) (w1:=(wr.setCell ⟨go21,(x10_3:Int).toNat,none⟩ (.int .i64 (wrap64 ((rd x6_3 x10_3)+1))))) ?hg ?ho ?hn ?hr ?_;(case ho=>rfl);(case hg=>rfl);(case hn=>rfl);(case hr=>first|(go_simp;done)|(go_simp;rfl));intro w25 hw;have hg:wr.grownBy w25 (some go21):=(by rw [hw];exact HP24.2);have hp_:Kd.R (Kd.int .i64) 3 w25 w.heap.size (fun _=>True) (.slice (some ⟨go21,0,none⟩) x6_3.length co23) y526:=(by rw [hw,Ny526.out];exact HP24.1);clear HP24;have n0_:=aK_ (hp_);have n1_:=aK_ (blk_grown (g:=gb517) (o:=.cells #[.string a0_0,.slice A0_1 l0_1.length c0_1,.int .i64 a0_2,.slice (some ad523) l0_3.length c0_3] 25 (0,0)) (by (with_reducible repeat (first|refine zAH ?_ _|refine zAJ ?_|refine zAI ?_ _));exact BK517.out) hg (Kd.R_ne HO_6.out BK517.out (by decide)));have n2_:=aK_ ((by rw [hw];exact zAF (HB.out) GB21.out:Below w.heap.size w w25));clear HO_6;clear BK517;clear HB;have HO_6:=n0_;have BK517:=n1_;have HB:=n2_;clear n0_ n1_ n2_;clear hg hw hp_;have p527:0≤(x10_3:Int):=of_decide_eq_true (by first|(with_reducible assumption)|assumption);have q527:x10_3<(y526.length:Int):=(by have h_:(x10_3:Int)<((x6_3.length:Int):Int):=of_decide_eq_true (by first|(with_reducible assumption)|assumption);first|(have e_:=(Kd.R_reads' HO_6.out).1;omega)|simpa only [Ny526.out,List.length_set] using h_);have ql527:((x10_3:Int)<((x6_3.length:Int):Int))=True:=eq_true (of_decide_eq_true (by first|(with_reducible assumption)|assumption));obtain ⟨ad527,e527,hx527_0⟩:=Kd.at_int (Kd.R_reads' HO_6.out).2.2 x10_3 p527 q527;obtain rfl:(⟨go21,0,none⟩:Addr)=ad527:=(by injection e527);(first|simp only [add_plain] at hx527_0|simp only [add_at] at hx527_0|simp only [Addr.add,Nat.zero_add] at hx527_0|skip);replace p527:=eq_true p527;replace q527:=eq_true q527;have p528:0≤(x10_3:Int):=of_decide_eq_true (by first|(with_reducible assumption)|assumption);have q528:x10_3<(y526.length:Int):=(by have h_:(x10_3:Int)<((x6_3.length:Int):Int):=of_decide_eq_true (by first|(with_reducible assumption)|assumption);first|(have e_:=(Kd.R_reads' HO_6.out).1;omega)|simpa only [Ny526.out,List.length_set] using h_);have ql528:((x10_3:Int)<((x6_3.length:Int):Int))=True:=eq_true (of_decide_eq_true (by first|(with_reducible assumption)|assumption));obtain ⟨ad528,e528,hx528_0⟩:=Kd.at_int (Kd.R_reads' HO_6.out).2.2 x10_3 p528 q528;obtain rfl:(⟨go21,0,none⟩:Addr)=ad528:=(by injection e528);(first|simp only [add_plain] at hx528_0|simp only [add_at] at hx528_0|simp only [Addr.add,Nat.zero_add] at hx528_0|skip);replace p528:=eq_true p528;replace q528:=eq_true q528))
                go_roundg k3
                case measure=>have:=HK1.out;have:=HK2.out;have:=HK3.out;omega
                case rel=>exact ⟨(y526),(rd y526 x10_3),(wrap64 (x10_3+1)),(by first|rfl|(simp;done)|(simp [*];done)),(by first|rfl|(simp;done)|(simp [*];done)),H',⟨by have:=HK1.out;have:=HK2.out;have:=HK3.out;omega⟩,⟨by (with_reducible repeat (first|apply Kd.R_alloc|apply Kd.R_drewN|apply Kd.R_drew));exact HO_6.out⟩,⟨by (with_reducible repeat (first|refine zAH ?_ _|refine zAJ ?_|refine zAI ?_ _));exact BK517.out⟩,⟨by repeat (first|(with_reducible first|exact HB.out|apply zAB|apply zAA|apply zAD|refine zAF ?_ GE517.out)|exact HB.out)⟩⟩
               ·rw [if_neg c22] at H
                have c22b0:decide (x8_3<(rd y526 x10_3))=false:=decide_eq_false c22
                clear c22
                have H':=aK_ H
                clear H
                obtain ⟨Ao26,co26,eo26⟩:=Kd.R_slice HO_6.out
                subst eo26
                have p525:0≤(x10_3:Int):=of_decide_eq_true (by first|(with_reducible assumption)|assumption)
                have q525:x10_3<(x6_3.length:Int):=of_decide_eq_true (by first|(with_reducible assumption)|assumption)
                obtain ⟨ad525,e525,hx525_0⟩:=Kd.at_int (Kd.R_reads' HO_6.out).2.2 x10_3 p525 q525
                cases e525
                replace p525:=eq_true p525
                replace q525:=eq_true q525
                have p21:0≤(x10_3:Int):=of_decide_eq_true (by first|(with_reducible assumption)|assumption)
                have q21:(x10_3:Int)<((x6_3.length:Int):Int):=of_decide_eq_true (by first|(with_reducible assumption)|assumption)
                obtain ⟨go21,co21,eo21,gb21,gl21,cl21,HG21⟩:=Kd.R_form HO_6.out (by omega)
                (first|cases eo21|(injection eo21 with ea_ en_ ec_;(first|subst ea_|(injection ea_ with ea_;subst ea_));subst ec_;clear en_))
                have GB21:=aK_ gb21
                have GG21:=aK_ HG21
                clear gb21 gl21 HG21
                (first|simp only [add_plain] at hx525_0|skip)
                obtain ⟨hx21_0,hf21_0⟩:=Kd.R_celln 0 HO_6.out (x10_3:Int) p21 q21
                replace p21:=eq_true p21
                replace q21:=eq_true q21
                have HP27:=Kd.R_putg HO_6.out (x10_3:Int) (wrap64 ((rd x6_3 x10_3)+1))
                go_wp2_with (first|((with_reducible refine gate_store (t:=3) (p:=56) rfl ?_);refine store_event (t:=3) (p:=56) (v:=?vo_w28) (w1:=(wr.setCell ⟨go21,(x10_3:Int).toNat,none⟩ (.int .i64 (wrap64 ((rd x6_3 x10_3)+1))))) ?hg ?ho ?hn ?hr ?_;(case ho=>rfl);(case hg=>rfl);(case hn=>rfl);(case hr=>first|(go_simp;done)|(go_simp;rfl));intro w28 hw;have hg:wr.grownBy w28 (some go21):=(by rw [hw];exact HP27.2);have hp_:Kd.R (Kd.int .i64) 3 w28 w.heap.size (fun _=>True) (.slice (some ⟨go21,0,none⟩) x6_3.length co26) y526:=(by rw [hw,Ny526.out];exact HP27.1);clear HP27;have n0_:=aK_ (hp_);have n1_:=aK_ (blk_grown (g:=gb517) (o:=.cells #[.string a0_0,.slice A0_1 l0_1.length c0_1,.int .i64 a0_2,.slice (some ad523) l0_3.length c0_3] 25 (0,0)) (by (with_reducible repeat (first|refine zAH ?_ _|refine zAJ ?_|refine zAI ?_ _));exact BK517.out) hg (Kd.R_ne HO_6.out BK517.out (by decide)));have n2_:=aK_ ((by rw [hw];exact zAF (HB.out) GB21.out:Below w.heap.size w w28));clear HO_6;clear BK517;clear HB;have HO_6:=n0_;have BK517:=n1_;have HB:=n2_;clear n0_ n1_ n2_;clear hg hw hp_;have p527:0≤(x10_3:Int):=of_decide_eq_true (by first|(with_reducible assumption)|assumption);have q527:x10_3<(y526.length:Int):=(by have h_:(x10_3:Int)<((x6_3.length:Int):Int):=of_decide_eq_true (by first|(with_reducible assumption)|assumption);first|(have e_:=(Kd.R_reads' HO_6.out).1;omega)|simpa only [Ny526.out,List.length_set] using h_);have ql527:((x10_3:Int)<((x6_3.length:Int):Int))=True:=eq_true (of_decide_eq_true (by first|(with_reducible assumption)|assumption));obtain ⟨ad527,e527,hx527_0⟩:=Kd.at_int (Kd.R_reads' HO_6.out).2.2 x10_3 p527 q527;obtain rfl:(⟨go21,0,none⟩:Addr)=ad527:=(by injection e527);(first|simp only [add_plain] at hx527_0|simp only [add_at] at hx527_0|simp only [Addr.add,Nat.zero_add] at hx527_0|skip);replace p527:=eq_true p527;replace q527:=eq_true q527))
                go_roundg k3
                case measure=>have:=HK1.out;have:=HK2.out;have:=HK3.out;omega
                case rel=>exact ⟨(y526),(x8_3),(wrap64 (x10_3+1)),(by first|rfl|(simp;done)|(simp [*];done)),(by first|rfl|(simp;done)|(simp [*];done)),H',⟨by have:=HK1.out;have:=HK2.out;have:=HK3.out;omega⟩,⟨by (with_reducible repeat (first|apply Kd.R_alloc|apply Kd.R_drewN|apply Kd.R_drew));exact HO_6.out⟩,⟨by (with_reducible repeat (first|refine zAH ?_ _|refine zAJ ?_|refine zAI ?_ _));exact BK517.out⟩,⟨by repeat (first|(with_reducible first|exact HB.out|apply zAB|apply zAA|apply zAD|refine zAF ?_ GE517.out)|exact HB.out)⟩⟩
              ·rw [if_neg c20] at H
               exact absurd H (by simp)
             ·rw [if_neg c19] at H
              exact absurd H (by simp)
            ·rw [if_neg c18] at H
             have c18b0:decide (x10_3≤x9_2)=false:=decide_eq_false c18
             clear c18
             have H':=aK_ H
             clear H
             go_wp2
             go_roundg k3
             case measure=>have:=HK1.out;have:=HK2.out;have:=HK3.out;omega
             case rel=>exact ⟨(x6_3),(x8_3),(wrap64 (x9_2+1)),(by first|rfl|(simp;done)|(simp [*];done)),(by first|rfl|(simp;done)|(simp [*];done)),H',⟨by have:=HK1.out;have:=HK2.out;have:=HK3.out;omega⟩,⟨by (with_reducible repeat (first|apply Kd.R_alloc|apply Kd.R_drewN|apply Kd.R_drew));exact HO_6.out⟩,⟨by (with_reducible repeat (first|refine zAH ?_ _|refine zAJ ?_|refine zAI ?_ _));exact BK517.out⟩,⟨by repeat (first|(with_reducible first|exact HB.out|apply zAB|apply zAA|apply zAD|refine zAF ?_ GE517.out)|exact HB.out)⟩⟩
         ·rw [if_neg c14] at H
          have c14b0:(((zAG l0_3 x9_2).f0) == 15)=false:=beq_eq_false_iff_ne.mpr c14
          have c14b1:(((zAG l0_3 x9_2).f0) != 15)=true:=bne_iff_ne.mpr c14
          have H':=aK_ H
          clear H
          have hcz29_0:wr.cell? ⟨gb517,0,none⟩=some (.string a0_0):=(zAE BK517.out 0).trans rfl
          have hcz29_1:wr.cell? ⟨gb517,1,none⟩=some (.slice A0_1 l0_1.length c0_1):=(zAE BK517.out 1).trans rfl
          have hcz29_2:wr.cell? ⟨gb517,2,none⟩=some (.int .i64 a0_2):=(zAE BK517.out 2).trans rfl
          have hcz29_3:wr.cell? ⟨gb517,3,none⟩=some (.slice A0_3 l0_3.length c0_3):=(zAE BK517.out 3).trans rfl
          have hfz29_0:=zAC BK517.out 0
          have hfz29_1:=zAC BK517.out 1
          have hfz29_2:=zAC BK517.out 2
          have hfz29_3:=zAC BK517.out 3
          have p523:0≤(x9_2:Int):=of_decide_eq_true (by first|(with_reducible assumption)|assumption)
          have q523:x9_2<(l0_3.length:Int):=of_decide_eq_true (by first|(with_reducible assumption)|assumption)
          obtain ⟨ad523,A523_4,c523_4,e523,hx523_0,hx523_1,hx523_2,hx523_3,hx523_4,hx523_5,hl523_4,hi523_4⟩:=at_T33 HR0_3.out x9_2 p523 q523
          cases e523
          replace hx523_0:=(HB.out.cell (World.block_lt_of_cell? w _ hx523_0)).trans hx523_0
          replace hx523_1:=(HB.out.cell (World.block_lt_of_cell? w _ hx523_1)).trans hx523_1
          replace hx523_2:=(HB.out.cell (World.block_lt_of_cell? w _ hx523_2)).trans hx523_2
          replace hx523_3:=(HB.out.cell (World.block_lt_of_cell? w _ hx523_3)).trans hx523_3
          replace hx523_4:=(HB.out.cell (World.block_lt_of_cell? w _ hx523_4)).trans hx523_4
          replace hx523_5:=(HB.out.cell (World.block_lt_of_cell? w _ hx523_5)).trans hx523_5
          have HR523_4:=aK_ hi523_4
          have HC523_4:=aK_ hl523_4
          clear hi523_4 hl523_4
          replace p523:=eq_true p523
          replace q523:=eq_true q523
          go_wp2
          go_roundg k2
          case measure=>have:=HK1.out;have:=HK2.out;omega
          case rel=>exact ⟨(x6_2),(x8_2),(wrap64 (x9_2+1)),(by first|rfl|(simp;done)|(simp [*];done)),(by first|rfl|(simp;done)|(simp [*];done)),H',⟨by have:=HK1.out;have:=HK2.out;omega⟩,⟨by (with_reducible repeat (first|apply Kd.R_alloc|apply Kd.R_drewN|apply Kd.R_drew));exact HO_6.out⟩,⟨by (with_reducible repeat (first|refine zAH ?_ _|refine zAJ ?_|refine zAI ?_ _));exact BK517.out⟩,⟨by repeat (first|(with_reducible first|exact HB.out|apply zAB|apply zAA|apply zAD|refine zAF ?_ GE517.out)|exact HB.out)⟩⟩
        ·rw [if_neg c13] at H
         exact absurd H (by simp)
       ·rw [if_neg c12] at H
        have c12b0:decide (x9_2<(l0_3.length:Int))=false:=decide_eq_false c12
        clear c12
        simp only [Option.some.injEq,Prod.mk.injEq] at H
        obtain ⟨rfl,rfl⟩:=H
        have hcz30_0:wr.cell? ⟨gb517,0,none⟩=some (.string a0_0):=(zAE BK517.out 0).trans rfl
        have hcz30_1:wr.cell? ⟨gb517,1,none⟩=some (.slice A0_1 l0_1.length c0_1):=(zAE BK517.out 1).trans rfl
        have hcz30_2:wr.cell? ⟨gb517,2,none⟩=some (.int .i64 a0_2):=(zAE BK517.out 2).trans rfl
        have hcz30_3:wr.cell? ⟨gb517,3,none⟩=some (.slice A0_3 l0_3.length c0_3):=(zAE BK517.out 3).trans rfl
        have hfz30_0:=zAC BK517.out 0
        have hfz30_1:=zAC BK517.out 1
        have hfz30_2:=zAC BK517.out 2
        have hfz30_3:=zAC BK517.out 3
        go_wp2
        go_ret2
        exact ⟨by first|rfl|(simp [zAQ,zAP] <;> rfl)|(simp [*,zAQ,zAP] <;> rfl),by repeat (first|(with_reducible first|exact HB.out|apply zAB|apply zAA|apply zAD|refine zAF ?_ GE517.out)|exact HB.out)⟩
 ·rw [if_neg c3] at H
  have c3b0:(t519 == 0)=false:=beq_eq_false_iff_ne.mpr c3
  have c3b1:(t519 != 0)=true:=bne_iff_ne.mpr c3
  simp only [Option.some.injEq,Prod.mk.injEq] at H
  obtain ⟨rfl,rfl⟩:=H
  go_enter Tryd.func31,Tryd.ntmps31
  go_wp2_with (first|((with_reducible refine zAk (N:=1) rfl ?_);refine zAh ?hg (N:=1) ?hd (cs:=#[.string a0_0,.slice A0_1 l0_1.length c0_1,.int .i64 a0_2,.slice A0_3 l0_3.length c0_3]) (t:=25) ?hr ?_;(case hd=>rfl);(case hg=>rfl);(case hr=>first|(go_simp;done)|(go_simp;rfl));intro gb517 hg w31 hbox hb;have n0_:=aK_ (zAM (by repeat (first|(with_reducible first|exact HB.out|apply zAB|apply zAA|apply zAD)|exact HB.out)) hb);have n1_:=aK_ (hbox);have n2_:=aK_ ((by rw [hg];exact (zAK (by repeat (first|(with_reducible first|exact HB.out|apply zAB|apply zAA|apply zAD)|exact HB.out))):w.heap.size≤gb517));have n3_:=aK_ ((by rw [hg];exact (zAK (by repeat (first|(with_reducible first|exact HB.out|apply zAB|apply zAA|apply zAD)|exact HB.out))):w.heap.size≤gb517));clear HB;have HB:=n0_;have BK517:=n1_;have GW517:=n2_;have GE517:=n3_;clear n0_ n1_ n2_ n3_;clear hb hbox hg;have hcz32_0:w31.cell? ⟨gb517,0,none⟩=some (.string a0_0):=(zAE BK517.out 0).trans rfl;have hcz32_1:w31.cell? ⟨gb517,1,none⟩=some (.slice A0_1 l0_1.length c0_1):=(zAE BK517.out 1).trans rfl;have hcz32_2:w31.cell? ⟨gb517,2,none⟩=some (.int .i64 a0_2):=(zAE BK517.out 2).trans rfl;have hcz32_3:w31.cell? ⟨gb517,3,none⟩=some (.slice A0_3 l0_3.length c0_3):=(zAE BK517.out 3).trans rfl;have hfz32_0:=zAC BK517.out 0;have hfz32_1:=zAC BK517.out 1;have hfz32_2:=zAC BK517.out 2;have hfz32_3:=zAC BK517.out 3)|((with_reducible refine zAf (f:=17) rfl ?_);refine goesL_ (some 13) rfl rfl Tryd.func17 (by kernel_rfl) rfl #[.agg #[.string a0_0,.slice A0_1 l0_1.length c0_1,.int .i64 a0_2,.slice A0_3 l0_3.length c0_3]] rfl (by (try simp only [List.map_toArray,List.map_cons,List.map_nil]);first|done|rfl|(simp only [List.length_drop,List.length_take];rfl)) ?_;(with_reducible refine (zAN.calls k a0_0 _ _ l0_1 a0_2 _ _ l0_3 t518 t519 _ ?side1 ?side2 ?side3 ?side4 A2.out).mono ?_);(case side1=>repeat (first|exact (Kd.C_below HR0_1.out HB.out)|(with_reducible refine Kd.C_alloc ?_ _)|(with_reducible refine Kd.C_drewN ?_ _)|(with_reducible refine Kd.C_drew ?_)));(case side2=>exact HC0_1.out);(case side3=>repeat (first|exact (Kd.C_below HR0_3.out HB.out)|(with_reducible refine Kd.C_alloc ?_ _)|(with_reducible refine Kd.C_drewN ?_ _)|(with_reducible refine Kd.C_drew ?_)));(case side4=>exact HC0_3.out);rintro e w33 ⟨rfl,hb⟩;refine ⟨_,rfl,?_⟩;have n0_:=aK_ (zAb (g:=gb517) (o:=.cells #[.string a0_0,.slice A0_1 l0_1.length c0_1,.int .i64 a0_2,.slice A0_3 l0_3.length c0_3] 25 (0,0)) (by (with_reducible repeat (first|refine zAH ?_ _|refine zAJ ?_|refine zAI ?_ _));exact BK517.out) hb);have n1_:=aK_ (zAM (by repeat (first|(with_reducible first|exact HB.out|apply zAB|apply zAA|apply zAD|refine zAF ?_ GE517.out)|exact HB.out)) hb);clear BK517;clear HB;have BK517:=n0_;have HB:=n1_;clear n0_ n1_;(try clear hb);(try clear hb2);(try clear hk);(try clear hi)))
  go_ret2
  exact ⟨by first|rfl|(simp [zAQ,zAP] <;> rfl)|(simp [*,zAQ,zAP] <;> rfl),by repeat (first|(with_reducible first|exact HB.out|apply zAB|apply zAA|apply zAD|refine zAF ?_ GE517.out)|exact HB.out)⟩
end Go.Proofs.YthbnigjckjkmnaaDoor.S

namespace Go.Proofs.YthbnigjckjkmnaaDoor.S
open Go.RowKit Go.Proofs.YthbnigjckjkmnaaDoorW.PrintWords Go.Proofs.YthbnigjckjkmnaaDoorW.PrintLast Go.Proofs.YthbnigjckjkmnaaDoorW.PrintMore
attribute [local go_sem] max2_int min2_int max_two min_two max_three min_three max_four min_four
def scan_letter.f (a0:Int):Option (Bool):=if a0≥97 then (some (decide (a0≤122))) else (some false)
set_option maxHeartbeats 8000000 in
set_option maxRecDepth 100000 in
theorem scan_letter.calls (a0:Int) (r:Bool) (w:World) (h:scan_letter.f a0=some r) :
  Calls Tryd.prog 76 #[.int .u8 a0] w fun e w'=>e = .returned (.bool r)∧zAl w w':=by
 have H:(if a0≥97 then (some (decide (a0≤122))) else (some false))=some r:=h
 clear h
 by_cases c2:a0≥97
 ·rw [if_pos c2] at H
  have c2b0:decide (97≤a0)=true:=decide_eq_true c2
  clear c2
  obtain rfl:=Option.some.inj H
  go_enter Tryd.func76,Tryd.ntmps76
  go_wp2
  go_ret
  exact ⟨by first|rfl|(simp;done)|(simp [*];done),by repeat (first|exact zAl.refl _|apply zAl.step)⟩
 ·rw [if_neg c2] at H
  have c2b0:decide (97≤a0)=false:=decide_eq_false c2
  clear c2
  obtain rfl:=Option.some.inj H
  go_enter Tryd.func76,Tryd.ntmps76
  go_wp2
  go_ret
  exact ⟨by first|rfl|(simp;done)|(simp [*];done),by repeat (first|exact zAl.refl _|apply zAl.step)⟩
end Go.Proofs.YthbnigjckjkmnaaDoor.S

namespace Go.Proofs.YthbnigjckjkmnaaDoor.S
open Go.RowKit Go.Proofs.YthbnigjckjkmnaaDoorW.PrintWords Go.Proofs.YthbnigjckjkmnaaDoorW.PrintLast Go.Proofs.YthbnigjckjkmnaaDoorW.PrintMore
attribute [local go_sem] max2_int min2_int max_two min_two max_three min_three max_four min_four
mutual
def tree_rising.j0:Nat→List (S45)→Bool→Option (Bool)
 |0,_,_=>none
 |k+1,x0,x19=>if x19=true then (some false) else (tree_rising.l0 k x0 x0 (x0.length:Int) 0)
def tree_rising.l0:Nat→List (S45)→List (S45)→Int→Int→Option (Bool)
 |0,_,_,_,_=>none
 |k+1,x0,x20,x21,x22=>if x22<x21 then (if 0≤x22 then (if x22<(x20.length:Int) then (if x22 > 0 then (if 0≤(wrap64 (x22 - 1)) then (if (wrap64 (x22 - 1))<(x0.length:Int) then (if ((zAd x20 x22).f0)≤((zAd x0 (wrap64 (x22 - 1))).f0) then (some false) else (if ((zAd x20 x22).f0) > 1000000000000 then (some false) else (if ((zAd x20 x22).f1)<(-1000000000000) then (some false) else (if ((zAd x20 x22).f1) > 1000000000000 then (some false) else (tree_rising.l0 k x0 x20 x21 (wrap64 (x22+1))))))) else (none)) else (none)) else (if ((zAd x20 x22).f0) > 1000000000000 then (some false) else (if ((zAd x20 x22).f1)<(-1000000000000) then (some false) else (if ((zAd x20 x22).f1) > 1000000000000 then (some false) else (tree_rising.l0 k x0 x20 x21 (wrap64 (x22+1))))))) else (none)) else (none)) else (some true)
end
def tree_rising.f (k:Nat) (l0:List (S45)):Option (Bool):=if (l0.length:Int)<1 then (tree_rising.j0 k l0 true) else (if (l0.length:Int) > 16 then (tree_rising.j0 k l0 true) else (if 0<(l0.length:Int) then (tree_rising.j0 k l0 (((zAd l0 0).f0) != 0)) else (none)))
theorem tree_rising.mono_l:∀ k,(∀ y0 y1,LeO (tree_rising.j0 k y0 y1) (tree_rising.j0 (k+1) y0 y1))∧(∀ y0 y1 y2 y3,LeO (tree_rising.l0 k y0 y1 y2 y3) (tree_rising.l0 (k+1) y0 y1 y2 y3))
 |0=>⟨fun _ _ r h=>by simp [tree_rising.j0] at h,fun _ _ _ _ r h=>by simp [tree_rising.l0] at h⟩
 |k+1=>by
  obtain ⟨ih0,ih1⟩:=tree_rising.mono_l k
  refine ⟨?_,?_⟩
  ·intro y0 y1
   unfold tree_rising.j0
   repeat' first
   |(with_reducible exact ih0 _ _)
   |(with_reducible exact ih1 _ _ _ _)
   |(with_reducible exact LeO.refl _)
   |(with_reducible exact LeO.none _)
   |(with_reducible refine LeO.ite ?_ ?_)
   |(with_reducible refine LeO.bind ?_ (fun _=>?_))
   |exact ih0 _ _
   |exact ih1 _ _ _ _
   |exact LeO.none _
   |refine LeO.ite ?_ ?_
   |refine LeO.bind ?_ (fun _=>?_)
  ·intro y0 y1 y2 y3
   unfold tree_rising.l0
   repeat' first
   |(with_reducible exact ih0 _ _)
   |(with_reducible exact ih1 _ _ _ _)
   |(with_reducible exact LeO.refl _)
   |(with_reducible exact LeO.none _)
   |(with_reducible refine LeO.ite ?_ ?_)
   |(with_reducible refine LeO.bind ?_ (fun _=>?_))
   |exact ih0 _ _
   |exact ih1 _ _ _ _
   |exact LeO.none _
   |refine LeO.ite ?_ ?_
   |refine LeO.bind ?_ (fun _=>?_)
theorem tree_rising.mono:∀ a0 k,LeO (tree_rising.f k a0) (tree_rising.f (k+1) a0):=by
 intro a0 k
 obtain ⟨ih0,ih1⟩:=tree_rising.mono_l k
 unfold tree_rising.f
 repeat' first
   |(with_reducible exact ih0 _ _)
   |(with_reducible exact ih1 _ _ _ _)
   |(with_reducible exact LeO.refl _)
   |(with_reducible exact LeO.none _)
   |(with_reducible refine LeO.ite ?_ ?_)
   |(with_reducible refine LeO.bind ?_ (fun _=>?_))
   |exact ih0 _ _
   |exact ih1 _ _ _ _
   |exact LeO.none _
   |refine LeO.ite ?_ ?_
   |refine LeO.bind ?_ (fun _=>?_)
set_option maxHeartbeats 8000000 in
set_option maxRecDepth 100000 in
theorem tree_rising.calls (k:Nat) (A0:Option Addr) (c0:Nat) (l0:List (S45)) (r:Bool) (w:World) (hr0:Kd.C k45 w A0 l0.length l0) (hc0:l0.length≤c0) (h:tree_rising.f k l0=some r) :
  Calls Tryd.prog 58 #[.slice A0 l0.length c0] w fun e w'=>e = .returned (.bool r)∧Below w.heap.size w w':=by
 have hu45:=Tryd.underlying45
 have HR0:=aK_ hr0
 have HC0:=aK_ hc0
 clear hr0 hc0
 have HB:=aK_ (Below.refl w.heap.size w)
 have H:(if (l0.length:Int)<1 then (tree_rising.j0 k l0 true) else (if (l0.length:Int) > 16 then (tree_rising.j0 k l0 true) else (if 0<(l0.length:Int) then (tree_rising.j0 k l0 (((zAd l0 0).f0) != 0)) else (none))))=some r:=h
 clear h
 have HC2:=aK_ H
 clear H
 go_enter Tryd.func58,Tryd.ntmps58
 go_upto_region 1 with (fail)
 repeat (go_quiet (fail);go_upto_region 1 with (fail))
 go_cut [19] (fun v19 wc=>∃ (kq:Nat) (x19_1:Bool),v19 = .bool x19_1∧zAg (tree_rising.j0 kq l0 x19_1=some r)∧zAg (kq≤k)∧zAg (Below w.heap.size w wc))
 case first =>
  have H:=HC2.out
  clear HC2
  by_cases c3:(l0.length:Int)<1
  ·rw [if_pos c3] at H
   have c3b0:decide ((l0.length:Int)<1)=true:=decide_eq_true c3
   have c3b1:decide (l0.length<1)=true:=decide_eq_true (by omega)
   clear c3
   (first|rw [c3b0]|(simp only [i64_w,i32_w];rw [c3b0])|skip)
   have H':=aK_ H
   clear H
   go_wp2
   repeat (go_quiet (fail);try go_wp2)
   go_meet
   case rel=>exact ⟨_,(true),(by first|rfl|(simp;done)|(simp [*];done)),H',⟨by first|omega|exact Nat.le_refl _⟩,⟨by repeat (first|(with_reducible first|exact HB.out|apply zAB|apply zAA|apply zAD)|exact HB.out)⟩⟩
  ·rw [if_neg c3] at H
   have c3b0:decide ((l0.length:Int)<1)=false:=decide_eq_false c3
   have c3b1:decide (l0.length<1)=false:=decide_eq_false (by omega)
   clear c3
   (first|rw [c3b0]|(simp only [i64_w,i32_w];rw [c3b0])|skip)
   by_cases c4:(l0.length:Int) > 16
   ·rw [if_pos c4] at H
    have c4b0:decide (16<(l0.length:Int))=true:=decide_eq_true c4
    have c4b1:decide (16<l0.length)=true:=decide_eq_true (by omega)
    clear c4
    have H':=aK_ H
    clear H
    go_wp2
    repeat (go_quiet (fail);try go_wp2)
    go_meet
    case rel=>exact ⟨_,(true),(by first|rfl|(simp;done)|(simp [*];done)),H',⟨by first|omega|exact Nat.le_refl _⟩,⟨by repeat (first|(with_reducible first|exact HB.out|apply zAB|apply zAA|apply zAD)|exact HB.out)⟩⟩
   ·rw [if_neg c4] at H
    have c4b0:decide (16<(l0.length:Int))=false:=decide_eq_false c4
    have c4b1:decide (16<l0.length)=false:=decide_eq_false (by omega)
    clear c4
    by_cases c5:0<(l0.length:Int)
    ·rw [if_pos c5] at H
     have c5b0:decide (0<(l0.length:Int))=true:=decide_eq_true c5
     have c5b1:decide (0<l0.length)=true:=decide_eq_true (by omega)
     clear c5
     have H':=aK_ H
     clear H
     have p113:0≤(0:Int):=(by omega)
     have q113:0<(l0.length:Int):=of_decide_eq_true (by first|(with_reducible assumption)|assumption)
     obtain ⟨ad113,e113,hx113_0,hx113_1⟩:=at_T45 HR0.out 0 p113 q113
     cases e113
     have qi113:(0<l0.length)=True:=eq_true (by omega)
     (try rw [show ((0:Int)).toNat=0 from rfl] at hx113_0)
     (try rw [show 0 * 2=0 from rfl] at hx113_0)
     (try rw [Addr.add_zero'] at hx113_0)
     (try rw [show ((0:Int)).toNat=0 from rfl] at hx113_1)
     (try rw [show 0 * 2=0 from rfl] at hx113_1)
     (try rw [Addr.add_zero'] at hx113_1)
     replace hx113_0:=(HB.out.cell (World.block_lt_of_cell? w _ hx113_0)).trans hx113_0
     replace hx113_1:=(HB.out.cell (World.block_lt_of_cell? w _ hx113_1)).trans hx113_1
     replace p113:=eq_true p113
     replace q113:=eq_true q113
     go_wp2
     repeat (go_quiet (fail);try go_wp2)
     go_meet
     case rel=>exact ⟨_,((((zAd l0 0).f0) != 0)),(by first|rfl|(simp;done)|(simp [*];done)),H',⟨by first|omega|exact Nat.le_refl _⟩,⟨by repeat (first|(with_reducible first|exact HB.out|apply zAB|apply zAA|apply zAD)|exact HB.out)⟩⟩
    ·rw [if_neg c5] at H
     exact absurd H (by simp)
 case rest =>
  clear HC2
  try clear p1
  try clear q1
  try clear hx1
  try clear qi1
  try clear p2
  try clear c3
  try clear c3b0
  try clear c3b1
  try clear c4
  try clear c4b0
  try clear c4b1
  try clear c5
  try clear c5b0
  try clear c5b1
  try clear hx113_0
  try clear hx113_1
  try clear p113
  try clear q113
  obtain ⟨kq,x19_1,rfl,HA,HJ1,HB⟩:=hcut
  cases kq with
  |zero=>exact absurd HA.out (by simp [tree_rising.j0])
  |succ kj1 =>
   have H:=HA.out
   clear HA
   simp only [tree_rising.j0] at H
   by_cases c6:x19_1=true
   ·subst c6
    have H1:(some false)=some r:=by rw [if_pos rfl] at H;exact H
    clear H
    have H:=H1
    clear H1
    obtain rfl:=Option.some.inj H
    go_wp2
    repeat (go_quiet (fail);try go_wp2)
    go_ret
    exact ⟨by first|rfl|(simp [zAQ,zAP] <;> rfl)|(simp [*,zAQ,zAP] <;> rfl),by repeat (first|(with_reducible first|exact HB.out|apply zAB|apply zAA|apply zAD)|exact HB.out)⟩
   ·replace c6:=Bool.eq_false_iff.mpr c6
    subst c6
    have H1:(tree_rising.l0 kj1 l0 l0 (l0.length:Int) 0)=some r:=by rw [if_neg (show ¬ (false=true) by decide)] at H;exact H
    clear H
    have H:=H1
    clear H1
    have H':=aK_ H
    clear H
    go_wp2
    repeat (go_quiet (fail);try go_wp2)
    (try simp only [Act.put,List.setIfInBounds_toArray,List.set_cons_zero,List.set_cons_succ])
    go_loopg [22] kj1 (fun kq v22 w'=>∃ (x22_2:Int),v22 = .int .i64 x22_2∧zAg (tree_rising.l0 kq l0 l0 (l0.length:Int) x22_2=some r)∧zAg (kq≤kj1)∧zAg (Below w.heap.size w w'))
    case atStart=>exact ⟨(0),(by first|rfl|(simp;done)|(simp [*];done)),H',⟨Nat.le_refl _⟩,⟨by repeat (first|(with_reducible first|exact HB.out|apply zAB|apply zAA|apply zAD)|exact HB.out)⟩⟩
    case round =>
     clear H'
     try clear p1
     try clear q1
     try clear hx1
     try clear qi1
     try clear p2
     try clear c3
     try clear c3b0
     try clear c3b1
     try clear c4
     try clear c4b0
     try clear c4b1
     try clear c5
     try clear c5b0
     try clear c5b1
     try clear c6
     try clear hx113_0
     try clear hx113_1
     try clear p1
     try clear p113
     try clear p2
     try clear q1
     try clear q113
     obtain ⟨x22_2,rfl,HA,HK2,HB⟩:=hrel
     cases gk with
     |zero=>exact absurd HA.out (by simp [tree_rising.l0])
     |succ k2 =>
      have H:=HA.out
      clear HA
      simp only [tree_rising.l0] at H
      by_cases c7:x22_2<(l0.length:Int)
      ·rw [if_pos c7] at H
       have c7b0:decide (x22_2<(l0.length:Int))=true:=decide_eq_true c7
       clear c7
       by_cases c8:0≤x22_2
       ·rw [if_pos c8] at H
        have c8b0:decide (0≤x22_2)=true:=decide_eq_true c8
        clear c8
        by_cases c9:x22_2<(l0.length:Int)
        ·rw [if_pos c9] at H
         have c9b0:decide (x22_2<(l0.length:Int))=true:=decide_eq_true c9
         clear c9
         by_cases c10:x22_2 > 0
         ·rw [if_pos c10] at H
          have c10b0:decide (0<x22_2)=true:=decide_eq_true c10
          clear c10
          obtain ⟨ji11,hji11⟩:∃ j_:Int,(wrap64 (x22_2 - 1))=j_:=⟨_,rfl⟩
          replace H:(if 0≤(ji11) then (if (ji11)<(l0.length:Int) then (if ((zAd l0 x22_2).f0)≤((zAd l0 (ji11)).f0) then (some false) else (if ((zAd l0 x22_2).f0) > 1000000000000 then (some false) else (if ((zAd l0 x22_2).f1)<(-1000000000000) then (some false) else (if ((zAd l0 x22_2).f1) > 1000000000000 then (some false) else (tree_rising.l0 k2 l0 l0 (l0.length:Int) (wrap64 (x22_2+1))))))) else (none)) else (none))=some r:=by first|(rw [hji11] at H;exact H)|(simp only [hji11] at H ⊢;exact H)
          have hji11w:(IntKind.i64.wrap (x22_2 - 1))=ji11:=(i64_w _).trans hji11
          by_cases c12:0≤(ji11)
          ·rw [if_pos c12] at H
           have c12b0:decide (0≤(ji11))=true:=decide_eq_true c12
           clear c12
           by_cases c13:(ji11)<(l0.length:Int)
           ·rw [if_pos c13] at H
            have c13b0:decide ((ji11)<(l0.length:Int))=true:=decide_eq_true c13
            clear c13
            by_cases c14:((zAd l0 x22_2).f0)≤((zAd l0 (ji11)).f0)
            ·rw [if_pos c14] at H
             have c14b0:decide (((zAd l0 x22_2).f0)≤((zAd l0 (ji11)).f0))=true:=decide_eq_true c14
             clear c14
             obtain rfl:=Option.some.inj H
             have p114:0≤(x22_2:Int):=of_decide_eq_true (by first|(with_reducible assumption)|assumption)
             have q114:x22_2<(l0.length:Int):=of_decide_eq_true (by first|(with_reducible assumption)|assumption)
             obtain ⟨ad114,e114,hx114_0,hx114_1⟩:=at_T45 HR0.out x22_2 p114 q114
             cases e114
             replace hx114_0:=(HB.out.cell (World.block_lt_of_cell? w _ hx114_0)).trans hx114_0
             replace hx114_1:=(HB.out.cell (World.block_lt_of_cell? w _ hx114_1)).trans hx114_1
             replace p114:=eq_true p114
             replace q114:=eq_true q114
             go_wp2_with (first|((with_reducible refine zAk (N:=4) rfl ?_);(try (refine gate_guard (by rfl) ?_;dsimp only));refine zAh ?hg (N:=4) ?hd (cs:=#[.int .i64 0,.int .i64 0]) (t:=45) ?hr ?_;(case hd=>rfl);(case hg=>rfl);(case hr=>first|(go_simp;done)|(go_simp;rfl));intro gb115 hg w15 hbox hb;have n0_:=aK_ (zAM (by repeat (first|(with_reducible first|exact HB.out|apply zAB|apply zAA|apply zAD)|exact HB.out)) hb);have n1_:=aK_ (hbox);have n2_:=aK_ ((by rw [hg];exact (zAK (by repeat (first|(with_reducible first|exact HB.out|apply zAB|apply zAA|apply zAD)|exact HB.out))):w.heap.size≤gb115));have n3_:=aK_ ((by rw [hg];exact (zAK (by repeat (first|(with_reducible first|exact HB.out|apply zAB|apply zAA|apply zAD)|exact HB.out))):w.heap.size≤gb115));clear HB;have HB:=n0_;have BK115:=n1_;have GW115:=n2_;have GE115:=n3_;clear n0_ n1_ n2_ n3_;clear hb hbox hg;have hcz16_0:w15.cell? ⟨gb115,0,none⟩=some (.int .i64 0):=(zAE BK115.out 0).trans rfl;have hcz16_1:w15.cell? ⟨gb115,1,none⟩=some (.int .i64 0):=(zAE BK115.out 1).trans rfl;have hfz16_0:=zAC BK115.out 0;have hfz16_1:=zAC BK115.out 1;have p116:0≤((ji11):Int):=of_decide_eq_true (by first|(with_reducible assumption)|assumption);have q116:(ji11)<(l0.length:Int):=of_decide_eq_true (by first|(with_reducible assumption)|assumption);obtain ⟨ad116,e116,hx116_0,hx116_1⟩:=at_T45 HR0.out (ji11) p116 q116;obtain rfl:ad114=ad116:=(by injection e116);have hn116_0:ad114.block≠gb115:=Nat.ne_of_lt (Nat.lt_of_lt_of_le (by have:=World.block_lt_of_cell? _ _ hx116_0;first|rwa [zAX] at this|exact this) GW115.out);have hn116_1:ad114.block≠gb115:=Nat.ne_of_lt (Nat.lt_of_lt_of_le (by have:=World.block_lt_of_cell? _ _ hx116_0;first|rwa [zAX] at this|exact this) GW115.out);replace hx116_0:=(HB.out.cell (World.block_lt_of_cell? w _ hx116_0)).trans hx116_0;replace hx116_1:=(HB.out.cell (World.block_lt_of_cell? w _ hx116_1)).trans hx116_1;replace hx116_0:=(cell_far (p:=⟨gb115,0,none⟩) (by first|(rw [zAX];exact hn116_0)|(show (Addr.add _ _).block≠_;rw [zAX];exact hn116_0)|exact hn116_0) (.int .i64 ((zAd l0 x22_2).f0))).trans hx116_0;replace hx116_1:=(cell_far (p:=⟨gb115,0,none⟩) (by first|(rw [zAX];exact hn116_0)|(show (Addr.add _ _).block≠_;rw [zAX];exact hn116_0)|exact hn116_0) (.int .i64 ((zAd l0 x22_2).f0))).trans hx116_1;replace hx116_0:=(cell_far (p:=⟨gb115,1,none⟩) (by first|(rw [zAX];exact hn116_1)|(show (Addr.add _ _).block≠_;rw [zAX];exact hn116_1)|exact hn116_1) (.int .i64 ((zAd l0 x22_2).f1))).trans hx116_0;replace hx116_1:=(cell_far (p:=⟨gb115,1,none⟩) (by first|(rw [zAX];exact hn116_1)|(show (Addr.add _ _).block≠_;rw [zAX];exact hn116_1)|exact hn116_1) (.int .i64 ((zAd l0 x22_2).f1))).trans hx116_1;(try have hy116_0:=fun (n_:Nat)=>(show ((((w15.drewN n_).setCell ⟨gb115,0,none⟩ (.int .i64 ((zAd l0 x22_2).f0))).setCell ⟨gb115,1,none⟩ (.int .i64 ((zAd l0 x22_2).f1)))).cell? _=some _ from hx116_0));(try have hy116_1:=fun (n_:Nat)=>(show ((((w15.drewN n_).setCell ⟨gb115,0,none⟩ (.int .i64 ((zAd l0 x22_2).f0))).setCell ⟨gb115,1,none⟩ (.int .i64 ((zAd l0 x22_2).f1)))).cell? _=some _ from hx116_1));clear hn116_0;clear hn116_1;replace p116:=eq_true p116;replace q116:=eq_true q116))
             repeat (go_quiet (first|((with_reducible refine zAk (N:=4) rfl ?_);(try (refine gate_guard (by rfl) ?_;dsimp only));refine zAh ?hg (N:=4) ?hd (cs:=#[.int .i64 0,.int .i64 0]) (t:=45) ?hr ?_;(case hd=>rfl);(case hg=>rfl);(case hr=>first|(go_simp;done)|(go_simp;rfl));intro gb115 hg w15 hbox hb;have n0_:=aK_ (zAM (by repeat (first|(with_reducible first|exact HB.out|apply zAB|apply zAA|apply zAD)|exact HB.out)) hb);have n1_:=aK_ (hbox);have n2_:=aK_ ((by rw [hg];exact (zAK (by repeat (first|(with_reducible first|exact HB.out|apply zAB|apply zAA|apply zAD)|exact HB.out))):w.heap.size≤gb115));have n3_:=aK_ ((by rw [hg];exact (zAK (by repeat (first|(with_reducible first|exact HB.out|apply zAB|apply zAA|apply zAD)|exact HB.out))):w.heap.size≤gb115));clear HB;have HB:=n0_;have BK115:=n1_;have GW115:=n2_;have GE115:=n3_;clear n0_ n1_ n2_ n3_;clear hb hbox hg;have hcz16_0:w15.cell? ⟨gb115,0,none⟩=some (.int .i64 0):=(zAE BK115.out 0).trans rfl;have hcz16_1:w15.cell? ⟨gb115,1,none⟩=some (.int .i64 0):=(zAE BK115.out 1).trans rfl;have hfz16_0:=zAC BK115.out 0;have hfz16_1:=zAC BK115.out 1;have p116:0≤((ji11):Int):=of_decide_eq_true (by first|(with_reducible assumption)|assumption);have q116:(ji11)<(l0.length:Int):=of_decide_eq_true (by first|(with_reducible assumption)|assumption);obtain ⟨ad116,e116,hx116_0,hx116_1⟩:=at_T45 HR0.out (ji11) p116 q116;obtain rfl:ad114=ad116:=(by injection e116);have hn116_0:ad114.block≠gb115:=Nat.ne_of_lt (Nat.lt_of_lt_of_le (by have:=World.block_lt_of_cell? _ _ hx116_0;first|rwa [zAX] at this|exact this) GW115.out);have hn116_1:ad114.block≠gb115:=Nat.ne_of_lt (Nat.lt_of_lt_of_le (by have:=World.block_lt_of_cell? _ _ hx116_0;first|rwa [zAX] at this|exact this) GW115.out);replace hx116_0:=(HB.out.cell (World.block_lt_of_cell? w _ hx116_0)).trans hx116_0;replace hx116_1:=(HB.out.cell (World.block_lt_of_cell? w _ hx116_1)).trans hx116_1;replace hx116_0:=(cell_far (p:=⟨gb115,0,none⟩) (by first|(rw [zAX];exact hn116_0)|(show (Addr.add _ _).block≠_;rw [zAX];exact hn116_0)|exact hn116_0) (.int .i64 ((zAd l0 x22_2).f0))).trans hx116_0;replace hx116_1:=(cell_far (p:=⟨gb115,0,none⟩) (by first|(rw [zAX];exact hn116_0)|(show (Addr.add _ _).block≠_;rw [zAX];exact hn116_0)|exact hn116_0) (.int .i64 ((zAd l0 x22_2).f0))).trans hx116_1;replace hx116_0:=(cell_far (p:=⟨gb115,1,none⟩) (by first|(rw [zAX];exact hn116_1)|(show (Addr.add _ _).block≠_;rw [zAX];exact hn116_1)|exact hn116_1) (.int .i64 ((zAd l0 x22_2).f1))).trans hx116_0;replace hx116_1:=(cell_far (p:=⟨gb115,1,none⟩) (by first|(rw [zAX];exact hn116_1)|(show (Addr.add _ _).block≠_;rw [zAX];exact hn116_1)|exact hn116_1) (.int .i64 ((zAd l0 x22_2).f1))).trans hx116_1;(try have hy116_0:=fun (n_:Nat)=>(show ((((w15.drewN n_).setCell ⟨gb115,0,none⟩ (.int .i64 ((zAd l0 x22_2).f0))).setCell ⟨gb115,1,none⟩ (.int .i64 ((zAd l0 x22_2).f1)))).cell? _=some _ from hx116_0));(try have hy116_1:=fun (n_:Nat)=>(show ((((w15.drewN n_).setCell ⟨gb115,0,none⟩ (.int .i64 ((zAd l0 x22_2).f0))).setCell ⟨gb115,1,none⟩ (.int .i64 ((zAd l0 x22_2).f1)))).cell? _=some _ from hx116_1));clear hn116_0;clear hn116_1;replace p116:=eq_true p116;replace q116:=eq_true q116));try go_wp2_with (first|((with_reducible refine zAk (N:=4) rfl ?_);(try (refine gate_guard (by rfl) ?_;dsimp only));refine zAh ?hg (N:=4) ?hd (cs:=#[.int .i64 0,.int .i64 0]) (t:=45) ?hr ?_;(case hd=>rfl);(case hg=>rfl);(case hr=>first|(go_simp;done)|(go_simp;rfl));intro gb115 hg w15 hbox hb;have n0_:=aK_ (zAM (by repeat (first|(with_reducible first|exact HB.out|apply zAB|apply zAA|apply zAD)|exact HB.out)) hb);have n1_:=aK_ (hbox);have n2_:=aK_ ((by rw [hg];exact (zAK (by repeat (first|(with_reducible first|exact HB.out|apply zAB|apply zAA|apply zAD)|exact HB.out))):w.heap.size≤gb115));have n3_:=aK_ ((by rw [hg];exact (zAK (by repeat (first|(with_reducible first|exact HB.out|apply zAB|apply zAA|apply zAD)|exact HB.out))):w.heap.size≤gb115));clear HB;have HB:=n0_;have BK115:=n1_;have GW115:=n2_;have GE115:=n3_;clear n0_ n1_ n2_ n3_;clear hb hbox hg;have hcz16_0:w15.cell? ⟨gb115,0,none⟩=some (.int .i64 0):=(zAE BK115.out 0).trans rfl;have hcz16_1:w15.cell? ⟨gb115,1,none⟩=some (.int .i64 0):=(zAE BK115.out 1).trans rfl;have hfz16_0:=zAC BK115.out 0;have hfz16_1:=zAC BK115.out 1;have p116:0≤((ji11):Int):=of_decide_eq_true (by first|(with_reducible assumption)|assumption);have q116:(ji11)<(l0.length:Int):=of_decide_eq_true (by first|(with_reducible assumption)|assumption);obtain ⟨ad116,e116,hx116_0,hx116_1⟩:=at_T45 HR0.out (ji11) p116 q116;obtain rfl:ad114=ad116:=(by injection e116);have hn116_0:ad114.block≠gb115:=Nat.ne_of_lt (Nat.lt_of_lt_of_le (by have:=World.block_lt_of_cell? _ _ hx116_0;first|rwa [zAX] at this|exact this) GW115.out);have hn116_1:ad114.block≠gb115:=Nat.ne_of_lt (Nat.lt_of_lt_of_le (by have:=World.block_lt_of_cell? _ _ hx116_0;first|rwa [zAX] at this|exact this) GW115.out);replace hx116_0:=(HB.out.cell (World.block_lt_of_cell? w _ hx116_0)).trans hx116_0;replace hx116_1:=(HB.out.cell (World.block_lt_of_cell? w _ hx116_1)).trans hx116_1;replace hx116_0:=(cell_far (p:=⟨gb115,0,none⟩) (by first|(rw [zAX];exact hn116_0)|(show (Addr.add _ _).block≠_;rw [zAX];exact hn116_0)|exact hn116_0) (.int .i64 ((zAd l0 x22_2).f0))).trans hx116_0;replace hx116_1:=(cell_far (p:=⟨gb115,0,none⟩) (by first|(rw [zAX];exact hn116_0)|(show (Addr.add _ _).block≠_;rw [zAX];exact hn116_0)|exact hn116_0) (.int .i64 ((zAd l0 x22_2).f0))).trans hx116_1;replace hx116_0:=(cell_far (p:=⟨gb115,1,none⟩) (by first|(rw [zAX];exact hn116_1)|(show (Addr.add _ _).block≠_;rw [zAX];exact hn116_1)|exact hn116_1) (.int .i64 ((zAd l0 x22_2).f1))).trans hx116_0;replace hx116_1:=(cell_far (p:=⟨gb115,1,none⟩) (by first|(rw [zAX];exact hn116_1)|(show (Addr.add _ _).block≠_;rw [zAX];exact hn116_1)|exact hn116_1) (.int .i64 ((zAd l0 x22_2).f1))).trans hx116_1;(try have hy116_0:=fun (n_:Nat)=>(show ((((w15.drewN n_).setCell ⟨gb115,0,none⟩ (.int .i64 ((zAd l0 x22_2).f0))).setCell ⟨gb115,1,none⟩ (.int .i64 ((zAd l0 x22_2).f1)))).cell? _=some _ from hx116_0));(try have hy116_1:=fun (n_:Nat)=>(show ((((w15.drewN n_).setCell ⟨gb115,0,none⟩ (.int .i64 ((zAd l0 x22_2).f0))).setCell ⟨gb115,1,none⟩ (.int .i64 ((zAd l0 x22_2).f1)))).cell? _=some _ from hx116_1));clear hn116_0;clear hn116_1;replace p116:=eq_true p116;replace q116:=eq_true q116)))
             go_ret
             exact ⟨by first|rfl|(simp [zAQ,zAP] <;> rfl)|(simp only [← hji11];first|rfl|(simp [zAQ,zAP] <;> rfl))|(simp [*,zAQ,zAP] <;> rfl),by repeat (first|(with_reducible first|exact HB.out|apply zAB|apply zAA|apply zAD|refine zAF ?_ GE115.out)|exact HB.out)⟩
            ·rw [if_neg c14] at H
             have c14b0:decide (((zAd l0 x22_2).f0)≤((zAd l0 (ji11)).f0))=false:=decide_eq_false c14
             clear c14
             by_cases c17:((zAd l0 x22_2).f0) > 1000000000000
             ·rw [if_pos c17] at H
              have c17b0:decide (1000000000000<((zAd l0 x22_2).f0))=true:=decide_eq_true c17
              clear c17
              obtain rfl:=Option.some.inj H
              have p114:0≤(x22_2:Int):=of_decide_eq_true (by first|(with_reducible assumption)|assumption)
              have q114:x22_2<(l0.length:Int):=of_decide_eq_true (by first|(with_reducible assumption)|assumption)
              obtain ⟨ad114,e114,hx114_0,hx114_1⟩:=at_T45 HR0.out x22_2 p114 q114
              cases e114
              replace hx114_0:=(HB.out.cell (World.block_lt_of_cell? w _ hx114_0)).trans hx114_0
              replace hx114_1:=(HB.out.cell (World.block_lt_of_cell? w _ hx114_1)).trans hx114_1
              replace p114:=eq_true p114
              replace q114:=eq_true q114
              go_wp2_with (first|((with_reducible refine zAk (N:=4) rfl ?_);(try (refine gate_guard (by rfl) ?_;dsimp only));refine zAh ?hg (N:=4) ?hd (cs:=#[.int .i64 0,.int .i64 0]) (t:=45) ?hr ?_;(case hd=>rfl);(case hg=>rfl);(case hr=>first|(go_simp;done)|(go_simp;rfl));intro gb115 hg w18 hbox hb;have n0_:=aK_ (zAM (by repeat (first|(with_reducible first|exact HB.out|apply zAB|apply zAA|apply zAD)|exact HB.out)) hb);have n1_:=aK_ (hbox);have n2_:=aK_ ((by rw [hg];exact (zAK (by repeat (first|(with_reducible first|exact HB.out|apply zAB|apply zAA|apply zAD)|exact HB.out))):w.heap.size≤gb115));have n3_:=aK_ ((by rw [hg];exact (zAK (by repeat (first|(with_reducible first|exact HB.out|apply zAB|apply zAA|apply zAD)|exact HB.out))):w.heap.size≤gb115));clear HB;have HB:=n0_;have BK115:=n1_;have GW115:=n2_;have GE115:=n3_;clear n0_ n1_ n2_ n3_;clear hb hbox hg;have hcz19_0:w18.cell? ⟨gb115,0,none⟩=some (.int .i64 0):=(zAE BK115.out 0).trans rfl;have hcz19_1:w18.cell? ⟨gb115,1,none⟩=some (.int .i64 0):=(zAE BK115.out 1).trans rfl;have hfz19_0:=zAC BK115.out 0;have hfz19_1:=zAC BK115.out 1;have p116:0≤((ji11):Int):=of_decide_eq_true (by first|(with_reducible assumption)|assumption);have q116:(ji11)<(l0.length:Int):=of_decide_eq_true (by first|(with_reducible assumption)|assumption);obtain ⟨ad116,e116,hx116_0,hx116_1⟩:=at_T45 HR0.out (ji11) p116 q116;obtain rfl:ad114=ad116:=(by injection e116);have hn116_0:ad114.block≠gb115:=Nat.ne_of_lt (Nat.lt_of_lt_of_le (by have:=World.block_lt_of_cell? _ _ hx116_0;first|rwa [zAX] at this|exact this) GW115.out);have hn116_1:ad114.block≠gb115:=Nat.ne_of_lt (Nat.lt_of_lt_of_le (by have:=World.block_lt_of_cell? _ _ hx116_0;first|rwa [zAX] at this|exact this) GW115.out);replace hx116_0:=(HB.out.cell (World.block_lt_of_cell? w _ hx116_0)).trans hx116_0;replace hx116_1:=(HB.out.cell (World.block_lt_of_cell? w _ hx116_1)).trans hx116_1;replace hx116_0:=(cell_far (p:=⟨gb115,0,none⟩) (by first|(rw [zAX];exact hn116_0)|(show (Addr.add _ _).block≠_;rw [zAX];exact hn116_0)|exact hn116_0) (.int .i64 ((zAd l0 x22_2).f0))).trans hx116_0;replace hx116_1:=(cell_far (p:=⟨gb115,0,none⟩) (by first|(rw [zAX];exact hn116_0)|(show (Addr.add _ _).block≠_;rw [zAX];exact hn116_0)|exact hn116_0) (.int .i64 ((zAd l0 x22_2).f0))).trans hx116_1;replace hx116_0:=(cell_far (p:=⟨gb115,1,none⟩) (by first|(rw [zAX];exact hn116_1)|(show (Addr.add _ _).block≠_;rw [zAX];exact hn116_1)|exact hn116_1) (.int .i64 ((zAd l0 x22_2).f1))).trans hx116_0;replace hx116_1:=(cell_far (p:=⟨gb115,1,none⟩) (by first|(rw [zAX];exact hn116_1)|(show (Addr.add _ _).block≠_;rw [zAX];exact hn116_1)|exact hn116_1) (.int .i64 ((zAd l0 x22_2).f1))).trans hx116_1;(try have hy116_0:=fun (n_:Nat)=>(show ((((w18.drewN n_).setCell ⟨gb115,0,none⟩ (.int .i64 ((zAd l0 x22_2).f0))).setCell ⟨gb115,1,none⟩ (.int .i64 ((zAd l0 x22_2).f1)))).cell? _=some _ from hx116_0));(try have hy116_1:=fun (n_:Nat)=>(show ((((w18.drewN n_).setCell ⟨gb115,0,none⟩ (.int .i64 ((zAd l0 x22_2).f0))).setCell ⟨gb115,1,none⟩ (.int .i64 ((zAd l0 x22_2).f1)))).cell? _=some _ from hx116_1));clear hn116_0;clear hn116_1;replace p116:=eq_true p116;replace q116:=eq_true q116))
              repeat (go_quiet (first|((with_reducible refine zAk (N:=4) rfl ?_);(try (refine gate_guard (by rfl) ?_;dsimp only));refine zAh ?hg (N:=4) ?hd (cs:=#[.int .i64 0,.int .i64 0]) (t:=45) ?hr ?_;(case hd=>rfl);(case hg=>rfl);(case hr=>first|(go_simp;done)|(go_simp;rfl));intro gb115 hg w18 hbox hb;have n0_:=aK_ (zAM (by repeat (first|(with_reducible first|exact HB.out|apply zAB|apply zAA|apply zAD)|exact HB.out)) hb);have n1_:=aK_ (hbox);have n2_:=aK_ ((by rw [hg];exact (zAK (by repeat (first|(with_reducible first|exact HB.out|apply zAB|apply zAA|apply zAD)|exact HB.out))):w.heap.size≤gb115));have n3_:=aK_ ((by rw [hg];exact (zAK (by repeat (first|(with_reducible first|exact HB.out|apply zAB|apply zAA|apply zAD)|exact HB.out))):w.heap.size≤gb115));clear HB;have HB:=n0_;have BK115:=n1_;have GW115:=n2_;have GE115:=n3_;clear n0_ n1_ n2_ n3_;clear hb hbox hg;have hcz19_0:w18.cell? ⟨gb115,0,none⟩=some (.int .i64 0):=(zAE BK115.out 0).trans rfl;have hcz19_1:w18.cell? ⟨gb115,1,none⟩=some (.int .i64 0):=(zAE BK115.out 1).trans rfl;have hfz19_0:=zAC BK115.out 0;have hfz19_1:=zAC BK115.out 1;have p116:0≤((ji11):Int):=of_decide_eq_true (by first|(with_reducible assumption)|assumption);have q116:(ji11)<(l0.length:Int):=of_decide_eq_true (by first|(with_reducible assumption)|assumption);obtain ⟨ad116,e116,hx116_0,hx116_1⟩:=at_T45 HR0.out (ji11) p116 q116;obtain rfl:ad114=ad116:=(by injection e116);have hn116_0:ad114.block≠gb115:=Nat.ne_of_lt (Nat.lt_of_lt_of_le (by have:=World.block_lt_of_cell? _ _ hx116_0;first|rwa [zAX] at this|exact this) GW115.out);have hn116_1:ad114.block≠gb115:=Nat.ne_of_lt (Nat.lt_of_lt_of_le (by have:=World.block_lt_of_cell? _ _ hx116_0;first|rwa [zAX] at this|exact this) GW115.out);replace hx116_0:=(HB.out.cell (World.block_lt_of_cell? w _ hx116_0)).trans hx116_0;replace hx116_1:=(HB.out.cell (World.block_lt_of_cell? w _ hx116_1)).trans hx116_1;replace hx116_0:=(cell_far (p:=⟨gb115,0,none⟩) (by first|(rw [zAX];exact hn116_0)|(show (Addr.add _ _).block≠_;rw [zAX];exact hn116_0)|exact hn116_0) (.int .i64 ((zAd l0 x22_2).f0))).trans hx116_0;replace hx116_1:=(cell_far (p:=⟨gb115,0,none⟩) (by first|(rw [zAX];exact hn116_0)|(show (Addr.add _ _).block≠_;rw [zAX];exact hn116_0)|exact hn116_0) (.int .i64 ((zAd l0 x22_2).f0))).trans hx116_1;replace hx116_0:=(cell_far (p:=⟨gb115,1,none⟩) (by first|(rw [zAX];exact hn116_1)|(show (Addr.add _ _).block≠_;rw [zAX];exact hn116_1)|exact hn116_1) (.int .i64 ((zAd l0 x22_2).f1))).trans hx116_0;replace hx116_1:=(cell_far (p:=⟨gb115,1,none⟩) (by first|(rw [zAX];exact hn116_1)|(show (Addr.add _ _).block≠_;rw [zAX];exact hn116_1)|exact hn116_1) (.int .i64 ((zAd l0 x22_2).f1))).trans hx116_1;(try have hy116_0:=fun (n_:Nat)=>(show ((((w18.drewN n_).setCell ⟨gb115,0,none⟩ (.int .i64 ((zAd l0 x22_2).f0))).setCell ⟨gb115,1,none⟩ (.int .i64 ((zAd l0 x22_2).f1)))).cell? _=some _ from hx116_0));(try have hy116_1:=fun (n_:Nat)=>(show ((((w18.drewN n_).setCell ⟨gb115,0,none⟩ (.int .i64 ((zAd l0 x22_2).f0))).setCell ⟨gb115,1,none⟩ (.int .i64 ((zAd l0 x22_2).f1)))).cell? _=some _ from hx116_1));clear hn116_0;clear hn116_1;replace p116:=eq_true p116;replace q116:=eq_true q116));try go_wp2_with (first|((with_reducible refine zAk (N:=4) rfl ?_);(try (refine gate_guard (by rfl) ?_;dsimp only));refine zAh ?hg (N:=4) ?hd (cs:=#[.int .i64 0,.int .i64 0]) (t:=45) ?hr ?_;(case hd=>rfl);(case hg=>rfl);(case hr=>first|(go_simp;done)|(go_simp;rfl));intro gb115 hg w18 hbox hb;have n0_:=aK_ (zAM (by repeat (first|(with_reducible first|exact HB.out|apply zAB|apply zAA|apply zAD)|exact HB.out)) hb);have n1_:=aK_ (hbox);have n2_:=aK_ ((by rw [hg];exact (zAK (by repeat (first|(with_reducible first|exact HB.out|apply zAB|apply zAA|apply zAD)|exact HB.out))):w.heap.size≤gb115));have n3_:=aK_ ((by rw [hg];exact (zAK (by repeat (first|(with_reducible first|exact HB.out|apply zAB|apply zAA|apply zAD)|exact HB.out))):w.heap.size≤gb115));clear HB;have HB:=n0_;have BK115:=n1_;have GW115:=n2_;have GE115:=n3_;clear n0_ n1_ n2_ n3_;clear hb hbox hg;have hcz19_0:w18.cell? ⟨gb115,0,none⟩=some (.int .i64 0):=(zAE BK115.out 0).trans rfl;have hcz19_1:w18.cell? ⟨gb115,1,none⟩=some (.int .i64 0):=(zAE BK115.out 1).trans rfl;have hfz19_0:=zAC BK115.out 0;have hfz19_1:=zAC BK115.out 1;have p116:0≤((ji11):Int):=of_decide_eq_true (by first|(with_reducible assumption)|assumption);have q116:(ji11)<(l0.length:Int):=of_decide_eq_true (by first|(with_reducible assumption)|assumption);obtain ⟨ad116,e116,hx116_0,hx116_1⟩:=at_T45 HR0.out (ji11) p116 q116;obtain rfl:ad114=ad116:=(by injection e116);have hn116_0:ad114.block≠gb115:=Nat.ne_of_lt (Nat.lt_of_lt_of_le (by have:=World.block_lt_of_cell? _ _ hx116_0;first|rwa [zAX] at this|exact this) GW115.out);have hn116_1:ad114.block≠gb115:=Nat.ne_of_lt (Nat.lt_of_lt_of_le (by have:=World.block_lt_of_cell? _ _ hx116_0;first|rwa [zAX] at this|exact this) GW115.out);replace hx116_0:=(HB.out.cell (World.block_lt_of_cell? w _ hx116_0)).trans hx116_0;replace hx116_1:=(HB.out.cell (World.block_lt_of_cell? w _ hx116_1)).trans hx116_1;replace hx116_0:=(cell_far (p:=⟨gb115,0,none⟩) (by first|(rw [zAX];exact hn116_0)|(show (Addr.add _ _).block≠_;rw [zAX];exact hn116_0)|exact hn116_0) (.int .i64 ((zAd l0 x22_2).f0))).trans hx116_0;replace hx116_1:=(cell_far (p:=⟨gb115,0,none⟩) (by first|(rw [zAX];exact hn116_0)|(show (Addr.add _ _).block≠_;rw [zAX];exact hn116_0)|exact hn116_0) (.int .i64 ((zAd l0 x22_2).f0))).trans hx116_1;replace hx116_0:=(cell_far (p:=⟨gb115,1,none⟩) (by first|(rw [zAX];exact hn116_1)|(show (Addr.add _ _).block≠_;rw [zAX];exact hn116_1)|exact hn116_1) (.int .i64 ((zAd l0 x22_2).f1))).trans hx116_0;replace hx116_1:=(cell_far (p:=⟨gb115,1,none⟩) (by first|(rw [zAX];exact hn116_1)|(show (Addr.add _ _).block≠_;rw [zAX];exact hn116_1)|exact hn116_1) (.int .i64 ((zAd l0 x22_2).f1))).trans hx116_1;(try have hy116_0:=fun (n_:Nat)=>(show ((((w18.drewN n_).setCell ⟨gb115,0,none⟩ (.int .i64 ((zAd l0 x22_2).f0))).setCell ⟨gb115,1,none⟩ (.int .i64 ((zAd l0 x22_2).f1)))).cell? _=some _ from hx116_0));(try have hy116_1:=fun (n_:Nat)=>(show ((((w18.drewN n_).setCell ⟨gb115,0,none⟩ (.int .i64 ((zAd l0 x22_2).f0))).setCell ⟨gb115,1,none⟩ (.int .i64 ((zAd l0 x22_2).f1)))).cell? _=some _ from hx116_1));clear hn116_0;clear hn116_1;replace p116:=eq_true p116;replace q116:=eq_true q116)))
              go_ret
              exact ⟨by first|rfl|(simp [zAQ,zAP] <;> rfl)|(simp only [← hji11];first|rfl|(simp [zAQ,zAP] <;> rfl))|(simp [*,zAQ,zAP] <;> rfl),by repeat (first|(with_reducible first|exact HB.out|apply zAB|apply zAA|apply zAD|refine zAF ?_ GE115.out)|exact HB.out)⟩
             ·rw [if_neg c17] at H
              have c17b0:decide (1000000000000<((zAd l0 x22_2).f0))=false:=decide_eq_false c17
              clear c17
              by_cases c20:((zAd l0 x22_2).f1)<(-1000000000000)
              ·rw [if_pos c20] at H
               have c20b0:decide (((zAd l0 x22_2).f1)<(-1000000000000))=true:=decide_eq_true c20
               clear c20
               obtain rfl:=Option.some.inj H
               have p114:0≤(x22_2:Int):=of_decide_eq_true (by first|(with_reducible assumption)|assumption)
               have q114:x22_2<(l0.length:Int):=of_decide_eq_true (by first|(with_reducible assumption)|assumption)
               obtain ⟨ad114,e114,hx114_0,hx114_1⟩:=at_T45 HR0.out x22_2 p114 q114
               cases e114
               replace hx114_0:=(HB.out.cell (World.block_lt_of_cell? w _ hx114_0)).trans hx114_0
               replace hx114_1:=(HB.out.cell (World.block_lt_of_cell? w _ hx114_1)).trans hx114_1
               replace p114:=eq_true p114
               replace q114:=eq_true q114
               go_wp2_with (first|((with_reducible refine zAk (N:=4) rfl ?_);(try (refine gate_guard (by rfl) ?_;dsimp only));refine zAh ?hg (N:=4) ?hd (cs:=#[.int .i64 0,.int .i64 0]) (t:=45) ?hr ?_;(case hd=>rfl);(case hg=>rfl);(case hr=>first|(go_simp;done)|(go_simp;rfl));intro gb115 hg w21 hbox hb;have n0_:=aK_ (zAM (by repeat (first|(with_reducible first|exact HB.out|apply zAB|apply zAA|apply zAD)|exact HB.out)) hb);have n1_:=aK_ (hbox);have n2_:=aK_ ((by rw [hg];exact (zAK (by repeat (first|(with_reducible first|exact HB.out|apply zAB|apply zAA|apply zAD)|exact HB.out))):w.heap.size≤gb115));have n3_:=aK_ ((by rw [hg];exact (zAK (by repeat (first|(with_reducible first|exact HB.out|apply zAB|apply zAA|apply zAD)|exact HB.out))):w.heap.size≤gb115));clear HB;have HB:=n0_;have BK115:=n1_;have GW115:=n2_;have GE115:=n3_;clear n0_ n1_ n2_ n3_;clear hb hbox hg;have hcz22_0:w21.cell? ⟨gb115,0,none⟩=some (.int .i64 0):=(zAE BK115.out 0).trans rfl;have hcz22_1:w21.cell? ⟨gb115,1,none⟩=some (.int .i64 0):=(zAE BK115.out 1).trans rfl;have hfz22_0:=zAC BK115.out 0;have hfz22_1:=zAC BK115.out 1;have p116:0≤((ji11):Int):=of_decide_eq_true (by first|(with_reducible assumption)|assumption);have q116:(ji11)<(l0.length:Int):=of_decide_eq_true (by first|(with_reducible assumption)|assumption);obtain ⟨ad116,e116,hx116_0,hx116_1⟩:=at_T45 HR0.out (ji11) p116 q116;obtain rfl:ad114=ad116:=(by injection e116);have hn116_0:ad114.block≠gb115:=Nat.ne_of_lt (Nat.lt_of_lt_of_le (by have:=World.block_lt_of_cell? _ _ hx116_0;first|rwa [zAX] at this|exact this) GW115.out);have hn116_1:ad114.block≠gb115:=Nat.ne_of_lt (Nat.lt_of_lt_of_le (by have:=World.block_lt_of_cell? _ _ hx116_0;first|rwa [zAX] at this|exact this) GW115.out);replace hx116_0:=(HB.out.cell (World.block_lt_of_cell? w _ hx116_0)).trans hx116_0;replace hx116_1:=(HB.out.cell (World.block_lt_of_cell? w _ hx116_1)).trans hx116_1;replace hx116_0:=(cell_far (p:=⟨gb115,0,none⟩) (by first|(rw [zAX];exact hn116_0)|(show (Addr.add _ _).block≠_;rw [zAX];exact hn116_0)|exact hn116_0) (.int .i64 ((zAd l0 x22_2).f0))).trans hx116_0;replace hx116_1:=(cell_far (p:=⟨gb115,0,none⟩) (by first|(rw [zAX];exact hn116_0)|(show (Addr.add _ _).block≠_;rw [zAX];exact hn116_0)|exact hn116_0) (.int .i64 ((zAd l0 x22_2).f0))).trans hx116_1;replace hx116_0:=(cell_far (p:=⟨gb115,1,none⟩) (by first|(rw [zAX];exact hn116_1)|(show (Addr.add _ _).block≠_;rw [zAX];exact hn116_1)|exact hn116_1) (.int .i64 ((zAd l0 x22_2).f1))).trans hx116_0;replace hx116_1:=(cell_far (p:=⟨gb115,1,none⟩) (by first|(rw [zAX];exact hn116_1)|(show (Addr.add _ _).block≠_;rw [zAX];exact hn116_1)|exact hn116_1) (.int .i64 ((zAd l0 x22_2).f1))).trans hx116_1;(try have hy116_0:=fun (n_:Nat)=>(show ((((w21.drewN n_).setCell ⟨gb115,0,none⟩ (.int .i64 ((zAd l0 x22_2).f0))).setCell ⟨gb115,1,none⟩ (.int .i64 ((zAd l0 x22_2).f1)))).cell? _=some _ from hx116_0));(try have hy116_1:=fun (n_:Nat)=>(show ((((w21.drewN n_).setCell ⟨gb115,0,none⟩ (.int .i64 ((zAd l0 x22_2).f0))).setCell ⟨gb115,1,none⟩ (.int .i64 ((zAd l0 x22_2).f1)))).cell? _=some _ from hx116_1));clear hn116_0;clear hn116_1;replace p116:=eq_true p116;replace q116:=eq_true q116))
               repeat (go_quiet (first|((with_reducible refine zAk (N:=4) rfl ?_);(try (refine gate_guard (by rfl) ?_;dsimp only));refine zAh ?hg (N:=4) ?hd (cs:=#[.int .i64 0,.int .i64 0]) (t:=45) ?hr ?_;(case hd=>rfl);(case hg=>rfl);(case hr=>first|(go_simp;done)|(go_simp;rfl));intro gb115 hg w21 hbox hb;have n0_:=aK_ (zAM (by repeat (first|(with_reducible first|exact HB.out|apply zAB|apply zAA|apply zAD)|exact HB.out)) hb);have n1_:=aK_ (hbox);have n2_:=aK_ ((by rw [hg];exact (zAK (by repeat (first|(with_reducible first|exact HB.out|apply zAB|apply zAA|apply zAD)|exact HB.out))):w.heap.size≤gb115));have n3_:=aK_ ((by rw [hg];exact (zAK (by repeat (first|(with_reducible first|exact HB.out|apply zAB|apply zAA|apply zAD)|exact HB.out))):w.heap.size≤gb115));clear HB;have HB:=n0_;have BK115:=n1_;have GW115:=n2_;have GE115:=n3_;clear n0_ n1_ n2_ n3_;clear hb hbox hg;have hcz22_0:w21.cell? ⟨gb115,0,none⟩=some (.int .i64 0):=(zAE BK115.out 0).trans rfl;have hcz22_1:w21.cell? ⟨gb115,1,none⟩=some (.int .i64 0):=(zAE BK115.out 1).trans rfl;have hfz22_0:=zAC BK115.out 0;have hfz22_1:=zAC BK115.out 1;have p116:0≤((ji11):Int):=of_decide_eq_true (by first|(with_reducible assumption)|assumption);have q116:(ji11)<(l0.length:Int):=of_decide_eq_true (by first|(with_reducible assumption)|assumption);obtain ⟨ad116,e116,hx116_0,hx116_1⟩:=at_T45 HR0.out (ji11) p116 q116;obtain rfl:ad114=ad116:=(by injection e116);have hn116_0:ad114.block≠gb115:=Nat.ne_of_lt (Nat.lt_of_lt_of_le (by have:=World.block_lt_of_cell? _ _ hx116_0;first|rwa [zAX] at this|exact this) GW115.out);have hn116_1:ad114.block≠gb115:=Nat.ne_of_lt (Nat.lt_of_lt_of_le (by have:=World.block_lt_of_cell? _ _ hx116_0;first|rwa [zAX] at this|exact this) GW115.out);replace hx116_0:=(HB.out.cell (World.block_lt_of_cell? w _ hx116_0)).trans hx116_0;replace hx116_1:=(HB.out.cell (World.block_lt_of_cell? w _ hx116_1)).trans hx116_1;replace hx116_0:=(cell_far (p:=⟨gb115,0,none⟩) (by first|(rw [zAX];exact hn116_0)|(show (Addr.add _ _).block≠_;rw [zAX];exact hn116_0)|exact hn116_0) (.int .i64 ((zAd l0 x22_2).f0))).trans hx116_0;replace hx116_1:=(cell_far (p:=⟨gb115,0,none⟩) (by first|(rw [zAX];exact hn116_0)|(show (Addr.add _ _).block≠_;rw [zAX];exact hn116_0)|exact hn116_0) (.int .i64 ((zAd l0 x22_2).f0))).trans hx116_1;replace hx116_0:=(cell_far (p:=⟨gb115,1,none⟩) (by first|(rw [zAX];exact hn116_1)|(show (Addr.add _ _).block≠_;rw [zAX];exact hn116_1)|exact hn116_1) (.int .i64 ((zAd l0 x22_2).f1))).trans hx116_0;replace hx116_1:=(cell_far (p:=⟨gb115,1,none⟩) (by first|(rw [zAX];exact hn116_1)|(show (Addr.add _ _).block≠_;rw [zAX];exact hn116_1)|exact hn116_1) (.int .i64 ((zAd l0 x22_2).f1))).trans hx116_1;(try have hy116_0:=fun (n_:Nat)=>(show ((((w21.drewN n_).setCell ⟨gb115,0,none⟩ (.int .i64 ((zAd l0 x22_2).f0))).setCell ⟨gb115,1,none⟩ (.int .i64 ((zAd l0 x22_2).f1)))).cell? _=some _ from hx116_0));(try have hy116_1:=fun (n_:Nat)=>(show ((((w21.drewN n_).setCell ⟨gb115,0,none⟩ (.int .i64 ((zAd l0 x22_2).f0))).setCell ⟨gb115,1,none⟩ (.int .i64 ((zAd l0 x22_2).f1)))).cell? _=some _ from hx116_1));clear hn116_0;clear hn116_1;replace p116:=eq_true p116;replace q116:=eq_true q116));try go_wp2_with (first|((with_reducible refine zAk (N:=4) rfl ?_);(try (refine gate_guard (by rfl) ?_;dsimp only));refine zAh ?hg (N:=4) ?hd (cs:=#[.int .i64 0,.int .i64 0]) (t:=45) ?hr ?_;(case hd=>rfl);(case hg=>rfl);(case hr=>first|(go_simp;done)|(go_simp;rfl));intro gb115 hg w21 hbox hb;have n0_:=aK_ (zAM (by repeat (first|(with_reducible first|exact HB.out|apply zAB|apply zAA|apply zAD)|exact HB.out)) hb);have n1_:=aK_ (hbox);have n2_:=aK_ ((by rw [hg];exact (zAK (by repeat (first|(with_reducible first|exact HB.out|apply zAB|apply zAA|apply zAD)|exact HB.out))):w.heap.size≤gb115));have n3_:=aK_ ((by rw [hg];exact (zAK (by repeat (first|(with_reducible first|exact HB.out|apply zAB|apply zAA|apply zAD)|exact HB.out))):w.heap.size≤gb115));clear HB;have HB:=n0_;have BK115:=n1_;have GW115:=n2_;have GE115:=n3_;clear n0_ n1_ n2_ n3_;clear hb hbox hg;have hcz22_0:w21.cell? ⟨gb115,0,none⟩=some (.int .i64 0):=(zAE BK115.out 0).trans rfl;have hcz22_1:w21.cell? ⟨gb115,1,none⟩=some (.int .i64 0):=(zAE BK115.out 1).trans rfl;have hfz22_0:=zAC BK115.out 0;have hfz22_1:=zAC BK115.out 1;have p116:0≤((ji11):Int):=of_decide_eq_true (by first|(with_reducible assumption)|assumption);have q116:(ji11)<(l0.length:Int):=of_decide_eq_true (by first|(with_reducible assumption)|assumption);obtain ⟨ad116,e116,hx116_0,hx116_1⟩:=at_T45 HR0.out (ji11) p116 q116;obtain rfl:ad114=ad116:=(by injection e116);have hn116_0:ad114.block≠gb115:=Nat.ne_of_lt (Nat.lt_of_lt_of_le (by have:=World.block_lt_of_cell? _ _ hx116_0;first|rwa [zAX] at this|exact this) GW115.out);have hn116_1:ad114.block≠gb115:=Nat.ne_of_lt (Nat.lt_of_lt_of_le (by have:=World.block_lt_of_cell? _ _ hx116_0;first|rwa [zAX] at this|exact this) GW115.out);replace hx116_0:=(HB.out.cell (World.block_lt_of_cell? w _ hx116_0)).trans hx116_0;replace hx116_1:=(HB.out.cell (World.block_lt_of_cell? w _ hx116_1)).trans hx116_1;replace hx116_0:=(cell_far (p:=⟨gb115,0,none⟩) (by first|(rw [zAX];exact hn116_0)|(show (Addr.add _ _).block≠_;rw [zAX];exact hn116_0)|exact hn116_0) (.int .i64 ((zAd l0 x22_2).f0))).trans hx116_0;replace hx116_1:=(cell_far (p:=⟨gb115,0,none⟩) (by first|(rw [zAX];exact hn116_0)|(show (Addr.add _ _).block≠_;rw [zAX];exact hn116_0)|exact hn116_0) (.int .i64 ((zAd l0 x22_2).f0))).trans hx116_1;replace hx116_0:=(cell_far (p:=⟨gb115,1,none⟩) (by first|(rw [zAX];exact hn116_1)|(show (Addr.add _ _).block≠_;rw [zAX];exact hn116_1)|exact hn116_1) (.int .i64 ((zAd l0 x22_2).f1))).trans hx116_0;replace hx116_1:=(cell_far (p:=⟨gb115,1,none⟩) (by first|(rw [zAX];exact hn116_1)|(show (Addr.add _ _).block≠_;rw [zAX];exact hn116_1)|exact hn116_1) (.int .i64 ((zAd l0 x22_2).f1))).trans hx116_1;(try have hy116_0:=fun (n_:Nat)=>(show ((((w21.drewN n_).setCell ⟨gb115,0,none⟩ (.int .i64 ((zAd l0 x22_2).f0))).setCell ⟨gb115,1,none⟩ (.int .i64 ((zAd l0 x22_2).f1)))).cell? _=some _ from hx116_0));(try have hy116_1:=fun (n_:Nat)=>(show ((((w21.drewN n_).setCell ⟨gb115,0,none⟩ (.int .i64 ((zAd l0 x22_2).f0))).setCell ⟨gb115,1,none⟩ (.int .i64 ((zAd l0 x22_2).f1)))).cell? _=some _ from hx116_1));clear hn116_0;clear hn116_1;replace p116:=eq_true p116;replace q116:=eq_true q116)))
               go_ret
               exact ⟨by first|rfl|(simp [zAQ,zAP] <;> rfl)|(simp only [← hji11];first|rfl|(simp [zAQ,zAP] <;> rfl))|(simp [*,zAQ,zAP] <;> rfl),by repeat (first|(with_reducible first|exact HB.out|apply zAB|apply zAA|apply zAD|refine zAF ?_ GE115.out)|exact HB.out)⟩
              ·rw [if_neg c20] at H
               have c20b0:decide (((zAd l0 x22_2).f1)<(-1000000000000))=false:=decide_eq_false c20
               clear c20
               by_cases c23:((zAd l0 x22_2).f1) > 1000000000000
               ·rw [if_pos c23] at H
                have c23b0:decide (1000000000000<((zAd l0 x22_2).f1))=true:=decide_eq_true c23
                clear c23
                obtain rfl:=Option.some.inj H
                have p114:0≤(x22_2:Int):=of_decide_eq_true (by first|(with_reducible assumption)|assumption)
                have q114:x22_2<(l0.length:Int):=of_decide_eq_true (by first|(with_reducible assumption)|assumption)
                obtain ⟨ad114,e114,hx114_0,hx114_1⟩:=at_T45 HR0.out x22_2 p114 q114
                cases e114
                replace hx114_0:=(HB.out.cell (World.block_lt_of_cell? w _ hx114_0)).trans hx114_0
                replace hx114_1:=(HB.out.cell (World.block_lt_of_cell? w _ hx114_1)).trans hx114_1
                replace p114:=eq_true p114
                replace q114:=eq_true q114
                go_wp2_with (first|((with_reducible refine zAk (N:=4) rfl ?_);(try (refine gate_guard (by rfl) ?_;dsimp only));refine zAh ?hg (N:=4) ?hd (cs:=#[.int .i64 0,.int .i64 0]) (t:=45) ?hr ?_;(case hd=>rfl);(case hg=>rfl);(case hr=>first|(go_simp;done)|(go_simp;rfl));intro gb115 hg w24 hbox hb;have n0_:=aK_ (zAM (by repeat (first|(with_reducible first|exact HB.out|apply zAB|apply zAA|apply zAD)|exact HB.out)) hb);have n1_:=aK_ (hbox);have n2_:=aK_ ((by rw [hg];exact (zAK (by repeat (first|(with_reducible first|exact HB.out|apply zAB|apply zAA|apply zAD)|exact HB.out))):w.heap.size≤gb115));have n3_:=aK_ ((by rw [hg];exact (zAK (by repeat (first|(with_reducible first|exact HB.out|apply zAB|apply zAA|apply zAD)|exact HB.out))):w.heap.size≤gb115));clear HB;have HB:=n0_;have BK115:=n1_;have GW115:=n2_;have GE115:=n3_;clear n0_ n1_ n2_ n3_;clear hb hbox hg;have hcz25_0:w24.cell? ⟨gb115,0,none⟩=some (.int .i64 0):=(zAE BK115.out 0).trans rfl;have hcz25_1:w24.cell? ⟨gb115,1,none⟩=some (.int .i64 0):=(zAE BK115.out 1).trans rfl;have hfz25_0:=zAC BK115.out 0;have hfz25_1:=zAC BK115.out 1;have p116:0≤((ji11):Int):=of_decide_eq_true (by first|(with_reducible assumption)|assumption);have q116:(ji11)<(l0.length:Int):=of_decide_eq_true (by first|(with_reducible assumption)|assumption);obtain ⟨ad116,e116,hx116_0,hx116_1⟩:=at_T45 HR0.out (ji11) p116 q116;obtain rfl:ad114=ad116:=(by injection e116);have hn116_0:ad114.block≠gb115:=Nat.ne_of_lt (Nat.lt_of_lt_of_le (by have:=World.block_lt_of_cell? _ _ hx116_0;first|rwa [zAX] at this|exact this) GW115.out);have hn116_1:ad114.block≠gb115:=Nat.ne_of_lt (Nat.lt_of_lt_of_le (by have:=World.block_lt_of_cell? _ _ hx116_0;first|rwa [zAX] at this|exact this) GW115.out);replace hx116_0:=(HB.out.cell (World.block_lt_of_cell? w _ hx116_0)).trans hx116_0;replace hx116_1:=(HB.out.cell (World.block_lt_of_cell? w _ hx116_1)).trans hx116_1;replace hx116_0:=(cell_far (p:=⟨gb115,0,none⟩) (by first|(rw [zAX];exact hn116_0)|(show (Addr.add _ _).block≠_;rw [zAX];exact hn116_0)|exact hn116_0) (.int .i64 ((zAd l0 x22_2).f0))).trans hx116_0;replace hx116_1:=(cell_far (p:=⟨gb115,0,none⟩) (by first|(rw [zAX];exact hn116_0)|(show (Addr.add _ _).block≠_;rw [zAX];exact hn116_0)|exact hn116_0) (.int .i64 ((zAd l0 x22_2).f0))).trans hx116_1;replace hx116_0:=(cell_far (p:=⟨gb115,1,none⟩) (by first|(rw [zAX];exact hn116_1)|(show (Addr.add _ _).block≠_;rw [zAX];exact hn116_1)|exact hn116_1) (.int .i64 ((zAd l0 x22_2).f1))).trans hx116_0;replace hx116_1:=(cell_far (p:=⟨gb115,1,none⟩) (by first|(rw [zAX];exact hn116_1)|(show (Addr.add _ _).block≠_;rw [zAX];exact hn116_1)|exact hn116_1) (.int .i64 ((zAd l0 x22_2).f1))).trans hx116_1;(try have hy116_0:=fun (n_:Nat)=>(show ((((w24.drewN n_).setCell ⟨gb115,0,none⟩ (.int .i64 ((zAd l0 x22_2).f0))).setCell ⟨gb115,1,none⟩ (.int .i64 ((zAd l0 x22_2).f1)))).cell? _=some _ from hx116_0));(try have hy116_1:=fun (n_:Nat)=>(show ((((w24.drewN n_).setCell ⟨gb115,0,none⟩ (.int .i64 ((zAd l0 x22_2).f0))).setCell ⟨gb115,1,none⟩ (.int .i64 ((zAd l0 x22_2).f1)))).cell? _=some _ from hx116_1));clear hn116_0;clear hn116_1;replace p116:=eq_true p116;replace q116:=eq_true q116))
                repeat (go_quiet (first|((with_reducible refine zAk (N:=4) rfl ?_);(try (refine gate_guard (by rfl) ?_;dsimp only));refine zAh ?hg (N:=4) ?hd (cs:=#[.int .i64 0,.int .i64 0]) (t:=45) ?hr ?_;(case hd=>rfl);(case hg=>rfl);(case hr=>first|(go_simp;done)|(go_simp;rfl));intro gb115 hg w24 hbox hb;have n0_:=aK_ (zAM (by repeat (first|(with_reducible first|exact HB.out|apply zAB|apply zAA|apply zAD)|exact HB.out)) hb);have n1_:=aK_ (hbox);have n2_:=aK_ ((by rw [hg];exact (zAK (by repeat (first|(with_reducible first|exact HB.out|apply zAB|apply zAA|apply zAD)|exact HB.out))):w.heap.size≤gb115));have n3_:=aK_ ((by rw [hg];exact (zAK (by repeat (first|(with_reducible first|exact HB.out|apply zAB|apply zAA|apply zAD)|exact HB.out))):w.heap.size≤gb115));clear HB;have HB:=n0_;have BK115:=n1_;have GW115:=n2_;have GE115:=n3_;clear n0_ n1_ n2_ n3_;clear hb hbox hg;have hcz25_0:w24.cell? ⟨gb115,0,none⟩=some (.int .i64 0):=(zAE BK115.out 0).trans rfl;have hcz25_1:w24.cell? ⟨gb115,1,none⟩=some (.int .i64 0):=(zAE BK115.out 1).trans rfl;have hfz25_0:=zAC BK115.out 0;have hfz25_1:=zAC BK115.out 1;have p116:0≤((ji11):Int):=of_decide_eq_true (by first|(with_reducible assumption)|assumption);have q116:(ji11)<(l0.length:Int):=of_decide_eq_true (by first|(with_reducible assumption)|assumption);obtain ⟨ad116,e116,hx116_0,hx116_1⟩:=at_T45 HR0.out (ji11) p116 q116;obtain rfl:ad114=ad116:=(by injection e116);have hn116_0:ad114.block≠gb115:=Nat.ne_of_lt (Nat.lt_of_lt_of_le (by have:=World.block_lt_of_cell? _ _ hx116_0;first|rwa [zAX] at this|exact this) GW115.out);have hn116_1:ad114.block≠gb115:=Nat.ne_of_lt (Nat.lt_of_lt_of_le (by have:=World.block_lt_of_cell? _ _ hx116_0;first|rwa [zAX] at this|exact this) GW115.out);replace hx116_0:=(HB.out.cell (World.block_lt_of_cell? w _ hx116_0)).trans hx116_0;replace hx116_1:=(HB.out.cell (World.block_lt_of_cell? w _ hx116_1)).trans hx116_1;replace hx116_0:=(cell_far (p:=⟨gb115,0,none⟩) (by first|(rw [zAX];exact hn116_0)|(show (Addr.add _ _).block≠_;rw [zAX];exact hn116_0)|exact hn116_0) (.int .i64 ((zAd l0 x22_2).f0))).trans hx116_0;replace hx116_1:=(cell_far (p:=⟨gb115,0,none⟩) (by first|(rw [zAX];exact hn116_0)|(show (Addr.add _ _).block≠_;rw [zAX];exact hn116_0)|exact hn116_0) (.int .i64 ((zAd l0 x22_2).f0))).trans hx116_1;replace hx116_0:=(cell_far (p:=⟨gb115,1,none⟩) (by first|(rw [zAX];exact hn116_1)|(show (Addr.add _ _).block≠_;rw [zAX];exact hn116_1)|exact hn116_1) (.int .i64 ((zAd l0 x22_2).f1))).trans hx116_0;replace hx116_1:=(cell_far (p:=⟨gb115,1,none⟩) (by first|(rw [zAX];exact hn116_1)|(show (Addr.add _ _).block≠_;rw [zAX];exact hn116_1)|exact hn116_1) (.int .i64 ((zAd l0 x22_2).f1))).trans hx116_1;(try have hy116_0:=fun (n_:Nat)=>(show ((((w24.drewN n_).setCell ⟨gb115,0,none⟩ (.int .i64 ((zAd l0 x22_2).f0))).setCell ⟨gb115,1,none⟩ (.int .i64 ((zAd l0 x22_2).f1)))).cell? _=some _ from hx116_0));(try have hy116_1:=fun (n_:Nat)=>(show ((((w24.drewN n_).setCell ⟨gb115,0,none⟩ (.int .i64 ((zAd l0 x22_2).f0))).setCell ⟨gb115,1,none⟩ (.int .i64 ((zAd l0 x22_2).f1)))).cell? _=some _ from hx116_1));clear hn116_0;clear hn116_1;replace p116:=eq_true p116;replace q116:=eq_true q116));try go_wp2_with (first|((with_reducible refine zAk (N:=4) rfl ?_);(try (refine gate_guard (by rfl) ?_;dsimp only));refine zAh ?hg (N:=4) ?hd (cs:=#[.int .i64 0,.int .i64 0]) (t:=45) ?hr ?_;(case hd=>rfl);(case hg=>rfl);(case hr=>first|(go_simp;done)|(go_simp;rfl));intro gb115 hg w24 hbox hb;have n0_:=aK_ (zAM (by repeat (first|(with_reducible first|exact HB.out|apply zAB|apply zAA|apply zAD)|exact HB.out)) hb);have n1_:=aK_ (hbox);have n2_:=aK_ ((by rw [hg];exact (zAK (by repeat (first|(with_reducible first|exact HB.out|apply zAB|apply zAA|apply zAD)|exact HB.out))):w.heap.size≤gb115));have n3_:=aK_ ((by rw [hg];exact (zAK (by repeat (first|(with_reducible first|exact HB.out|apply zAB|apply zAA|apply zAD)|exact HB.out))):w.heap.size≤gb115));clear HB;have HB:=n0_;have BK115:=n1_;have GW115:=n2_;have GE115:=n3_;clear n0_ n1_ n2_ n3_;clear hb hbox hg;have hcz25_0:w24.cell? ⟨gb115,0,none⟩=some (.int .i64 0):=(zAE BK115.out 0).trans rfl;have hcz25_1:w24.cell? ⟨gb115,1,none⟩=some (.int .i64 0):=(zAE BK115.out 1).trans rfl;have hfz25_0:=zAC BK115.out 0;have hfz25_1:=zAC BK115.out 1;have p116:0≤((ji11):Int):=of_decide_eq_true (by first|(with_reducible assumption)|assumption);have q116:(ji11)<(l0.length:Int):=of_decide_eq_true (by first|(with_reducible assumption)|assumption);obtain ⟨ad116,e116,hx116_0,hx116_1⟩:=at_T45 HR0.out (ji11) p116 q116;obtain rfl:ad114=ad116:=(by injection e116);have hn116_0:ad114.block≠gb115:=Nat.ne_of_lt (Nat.lt_of_lt_of_le (by have:=World.block_lt_of_cell? _ _ hx116_0;first|rwa [zAX] at this|exact this) GW115.out);have hn116_1:ad114.block≠gb115:=Nat.ne_of_lt (Nat.lt_of_lt_of_le (by have:=World.block_lt_of_cell? _ _ hx116_0;first|rwa [zAX] at this|exact this) GW115.out);replace hx116_0:=(HB.out.cell (World.block_lt_of_cell? w _ hx116_0)).trans hx116_0;replace hx116_1:=(HB.out.cell (World.block_lt_of_cell? w _ hx116_1)).trans hx116_1;replace hx116_0:=(cell_far (p:=⟨gb115,0,none⟩) (by first|(rw [zAX];exact hn116_0)|(show (Addr.add _ _).block≠_;rw [zAX];exact hn116_0)|exact hn116_0) (.int .i64 ((zAd l0 x22_2).f0))).trans hx116_0;replace hx116_1:=(cell_far (p:=⟨gb115,0,none⟩) (by first|(rw [zAX];exact hn116_0)|(show (Addr.add _ _).block≠_;rw [zAX];exact hn116_0)|exact hn116_0) (.int .i64 ((zAd l0 x22_2).f0))).trans hx116_1;replace hx116_0:=(cell_far (p:=⟨gb115,1,none⟩) (by first|(rw [zAX];exact hn116_1)|(show (Addr.add _ _).block≠_;rw [zAX];exact hn116_1)|exact hn116_1) (.int .i64 ((zAd l0 x22_2).f1))).trans hx116_0;replace hx116_1:=(cell_far (p:=⟨gb115,1,none⟩) (by first|(rw [zAX];exact hn116_1)|(show (Addr.add _ _).block≠_;rw [zAX];exact hn116_1)|exact hn116_1) (.int .i64 ((zAd l0 x22_2).f1))).trans hx116_1;(try have hy116_0:=fun (n_:Nat)=>(show ((((w24.drewN n_).setCell ⟨gb115,0,none⟩ (.int .i64 ((zAd l0 x22_2).f0))).setCell ⟨gb115,1,none⟩ (.int .i64 ((zAd l0 x22_2).f1)))).cell? _=some _ from hx116_0));(try have hy116_1:=fun (n_:Nat)=>(show ((((w24.drewN n_).setCell ⟨gb115,0,none⟩ (.int .i64 ((zAd l0 x22_2).f0))).setCell ⟨gb115,1,none⟩ (.int .i64 ((zAd l0 x22_2).f1)))).cell? _=some _ from hx116_1));clear hn116_0;clear hn116_1;replace p116:=eq_true p116;replace q116:=eq_true q116)))
                go_ret
                exact ⟨by first|rfl|(simp [zAQ,zAP] <;> rfl)|(simp only [← hji11];first|rfl|(simp [zAQ,zAP] <;> rfl))|(simp [*,zAQ,zAP] <;> rfl),by repeat (first|(with_reducible first|exact HB.out|apply zAB|apply zAA|apply zAD|refine zAF ?_ GE115.out)|exact HB.out)⟩
               ·rw [if_neg c23] at H
                have c23b0:decide (1000000000000<((zAd l0 x22_2).f1))=false:=decide_eq_false c23
                clear c23
                have H':=aK_ H
                clear H
                have p114:0≤(x22_2:Int):=of_decide_eq_true (by first|(with_reducible assumption)|assumption)
                have q114:x22_2<(l0.length:Int):=of_decide_eq_true (by first|(with_reducible assumption)|assumption)
                obtain ⟨ad114,e114,hx114_0,hx114_1⟩:=at_T45 HR0.out x22_2 p114 q114
                cases e114
                replace hx114_0:=(HB.out.cell (World.block_lt_of_cell? w _ hx114_0)).trans hx114_0
                replace hx114_1:=(HB.out.cell (World.block_lt_of_cell? w _ hx114_1)).trans hx114_1
                replace p114:=eq_true p114
                replace q114:=eq_true q114
                go_wp2_with (first|((with_reducible refine zAk (N:=4) rfl ?_);(try (refine gate_guard (by rfl) ?_;dsimp only));refine zAh ?hg (N:=4) ?hd (cs:=#[.int .i64 0,.int .i64 0]) (t:=45) ?hr ?_;(case hd=>rfl);(case hg=>rfl);(case hr=>first|(go_simp;done)|(go_simp;rfl));intro gb115 hg w26 hbox hb;have n0_:=aK_ (zAM (by repeat (first|(with_reducible first|exact HB.out|apply zAB|apply zAA|apply zAD)|exact HB.out)) hb);have n1_:=aK_ (hbox);have n2_:=aK_ ((by rw [hg];exact (zAK (by repeat (first|(with_reducible first|exact HB.out|apply zAB|apply zAA|apply zAD)|exact HB.out))):w.heap.size≤gb115));have n3_:=aK_ ((by rw [hg];exact (zAK (by repeat (first|(with_reducible first|exact HB.out|apply zAB|apply zAA|apply zAD)|exact HB.out))):w.heap.size≤gb115));clear HB;have HB:=n0_;have BK115:=n1_;have GW115:=n2_;have GE115:=n3_;clear n0_ n1_ n2_ n3_;clear hb hbox hg;have hcz27_0:w26.cell? ⟨gb115,0,none⟩=some (.int .i64 0):=(zAE BK115.out 0).trans rfl;have hcz27_1:w26.cell? ⟨gb115,1,none⟩=some (.int .i64 0):=(zAE BK115.out 1).trans rfl;have hfz27_0:=zAC BK115.out 0;have hfz27_1:=zAC BK115.out 1;have p116:0≤((ji11):Int):=of_decide_eq_true (by first|(with_reducible assumption)|assumption);have q116:(ji11)<(l0.length:Int):=of_decide_eq_true (by first|(with_reducible assumption)|assumption);obtain ⟨ad116,e116,hx116_0,hx116_1⟩:=at_T45 HR0.out (ji11) p116 q116;obtain rfl:ad114=ad116:=(by injection e116);have hn116_0:ad114.block≠gb115:=Nat.ne_of_lt (Nat.lt_of_lt_of_le (by have:=World.block_lt_of_cell? _ _ hx116_0;first|rwa [zAX] at this|exact this) GW115.out);have hn116_1:ad114.block≠gb115:=Nat.ne_of_lt (Nat.lt_of_lt_of_le (by have:=World.block_lt_of_cell? _ _ hx116_0;first|rwa [zAX] at this|exact this) GW115.out);replace hx116_0:=(HB.out.cell (World.block_lt_of_cell? w _ hx116_0)).trans hx116_0;replace hx116_1:=(HB.out.cell (World.block_lt_of_cell? w _ hx116_1)).trans hx116_1;replace hx116_0:=(cell_far (p:=⟨gb115,0,none⟩) (by first|(rw [zAX];exact hn116_0)|(show (Addr.add _ _).block≠_;rw [zAX];exact hn116_0)|exact hn116_0) (.int .i64 ((zAd l0 x22_2).f0))).trans hx116_0;replace hx116_1:=(cell_far (p:=⟨gb115,0,none⟩) (by first|(rw [zAX];exact hn116_0)|(show (Addr.add _ _).block≠_;rw [zAX];exact hn116_0)|exact hn116_0) (.int .i64 ((zAd l0 x22_2).f0))).trans hx116_1;replace hx116_0:=(cell_far (p:=⟨gb115,1,none⟩) (by first|(rw [zAX];exact hn116_1)|(show (Addr.add _ _).block≠_;rw [zAX];exact hn116_1)|exact hn116_1) (.int .i64 ((zAd l0 x22_2).f1))).trans hx116_0;replace hx116_1:=(cell_far (p:=⟨gb115,1,none⟩) (by first|(rw [zAX];exact hn116_1)|(show (Addr.add _ _).block≠_;rw [zAX];exact hn116_1)|exact hn116_1) (.int .i64 ((zAd l0 x22_2).f1))).trans hx116_1;(try have hy116_0:=fun (n_:Nat)=>(show ((((w26.drewN n_).setCell ⟨gb115,0,none⟩ (.int .i64 ((zAd l0 x22_2).f0))).setCell ⟨gb115,1,none⟩ (.int .i64 ((zAd l0 x22_2).f1)))).cell? _=some _ from hx116_0));(try have hy116_1:=fun (n_:Nat)=>(show ((((w26.drewN n_).setCell ⟨gb115,0,none⟩ (.int .i64 ((zAd l0 x22_2).f0))).setCell ⟨gb115,1,none⟩ (.int .i64 ((zAd l0 x22_2).f1)))).cell? _=some _ from hx116_1));clear hn116_0;clear hn116_1;replace p116:=eq_true p116;replace q116:=eq_true q116))
                repeat (go_quiet (first|((with_reducible refine zAk (N:=4) rfl ?_);(try (refine gate_guard (by rfl) ?_;dsimp only));refine zAh ?hg (N:=4) ?hd (cs:=#[.int .i64 0,.int .i64 0]) (t:=45) ?hr ?_;(case hd=>rfl);(case hg=>rfl);(case hr=>first|(go_simp;done)|(go_simp;rfl));intro gb115 hg w26 hbox hb;have n0_:=aK_ (zAM (by repeat (first|(with_reducible first|exact HB.out|apply zAB|apply zAA|apply zAD)|exact HB.out)) hb);have n1_:=aK_ (hbox);have n2_:=aK_ ((by rw [hg];exact (zAK (by repeat (first|(with_reducible first|exact HB.out|apply zAB|apply zAA|apply zAD)|exact HB.out))):w.heap.size≤gb115));have n3_:=aK_ ((by rw [hg];exact (zAK (by repeat (first|(with_reducible first|exact HB.out|apply zAB|apply zAA|apply zAD)|exact HB.out))):w.heap.size≤gb115));clear HB;have HB:=n0_;have BK115:=n1_;have GW115:=n2_;have GE115:=n3_;clear n0_ n1_ n2_ n3_;clear hb hbox hg;have hcz27_0:w26.cell? ⟨gb115,0,none⟩=some (.int .i64 0):=(zAE BK115.out 0).trans rfl;have hcz27_1:w26.cell? ⟨gb115,1,none⟩=some (.int .i64 0):=(zAE BK115.out 1).trans rfl;have hfz27_0:=zAC BK115.out 0;have hfz27_1:=zAC BK115.out 1;have p116:0≤((ji11):Int):=of_decide_eq_true (by first|(with_reducible assumption)|assumption);have q116:(ji11)<(l0.length:Int):=of_decide_eq_true (by first|(with_reducible assumption)|assumption);obtain ⟨ad116,e116,hx116_0,hx116_1⟩:=at_T45 HR0.out (ji11) p116 q116;obtain rfl:ad114=ad116:=(by injection e116);have hn116_0:ad114.block≠gb115:=Nat.ne_of_lt (Nat.lt_of_lt_of_le (by have:=World.block_lt_of_cell? _ _ hx116_0;first|rwa [zAX] at this|exact this) GW115.out);have hn116_1:ad114.block≠gb115:=Nat.ne_of_lt (Nat.lt_of_lt_of_le (by have:=World.block_lt_of_cell? _ _ hx116_0;first|rwa [zAX] at this|exact this) GW115.out);replace hx116_0:=(HB.out.cell (World.block_lt_of_cell? w _ hx116_0)).trans hx116_0;replace hx116_1:=(HB.out.cell (World.block_lt_of_cell? w _ hx116_1)).trans hx116_1;replace hx116_0:=(cell_far (p:=⟨gb115,0,none⟩) (by first|(rw [zAX];exact hn116_0)|(show (Addr.add _ _).block≠_;rw [zAX];exact hn116_0)|exact hn116_0) (.int .i64 ((zAd l0 x22_2).f0))).trans hx116_0;replace hx116_1:=(cell_far (p:=⟨gb115,0,none⟩) (by first|(rw [zAX];exact hn116_0)|(show (Addr.add _ _).block≠_;rw [zAX];exact hn116_0)|exact hn116_0) (.int .i64 ((zAd l0 x22_2).f0))).trans hx116_1;replace hx116_0:=(cell_far (p:=⟨gb115,1,none⟩) (by first|(rw [zAX];exact hn116_1)|(show (Addr.add _ _).block≠_;rw [zAX];exact hn116_1)|exact hn116_1) (.int .i64 ((zAd l0 x22_2).f1))).trans hx116_0;replace hx116_1:=(cell_far (p:=⟨gb115,1,none⟩) (by first|(rw [zAX];exact hn116_1)|(show (Addr.add _ _).block≠_;rw [zAX];exact hn116_1)|exact hn116_1) (.int .i64 ((zAd l0 x22_2).f1))).trans hx116_1;(try have hy116_0:=fun (n_:Nat)=>(show ((((w26.drewN n_).setCell ⟨gb115,0,none⟩ (.int .i64 ((zAd l0 x22_2).f0))).setCell ⟨gb115,1,none⟩ (.int .i64 ((zAd l0 x22_2).f1)))).cell? _=some _ from hx116_0));(try have hy116_1:=fun (n_:Nat)=>(show ((((w26.drewN n_).setCell ⟨gb115,0,none⟩ (.int .i64 ((zAd l0 x22_2).f0))).setCell ⟨gb115,1,none⟩ (.int .i64 ((zAd l0 x22_2).f1)))).cell? _=some _ from hx116_1));clear hn116_0;clear hn116_1;replace p116:=eq_true p116;replace q116:=eq_true q116));try go_wp2_with (first|((with_reducible refine zAk (N:=4) rfl ?_);(try (refine gate_guard (by rfl) ?_;dsimp only));refine zAh ?hg (N:=4) ?hd (cs:=#[.int .i64 0,.int .i64 0]) (t:=45) ?hr ?_;(case hd=>rfl);(case hg=>rfl);(case hr=>first|(go_simp;done)|(go_simp;rfl));intro gb115 hg w26 hbox hb;have n0_:=aK_ (zAM (by repeat (first|(with_reducible first|exact HB.out|apply zAB|apply zAA|apply zAD)|exact HB.out)) hb);have n1_:=aK_ (hbox);have n2_:=aK_ ((by rw [hg];exact (zAK (by repeat (first|(with_reducible first|exact HB.out|apply zAB|apply zAA|apply zAD)|exact HB.out))):w.heap.size≤gb115));have n3_:=aK_ ((by rw [hg];exact (zAK (by repeat (first|(with_reducible first|exact HB.out|apply zAB|apply zAA|apply zAD)|exact HB.out))):w.heap.size≤gb115));clear HB;have HB:=n0_;have BK115:=n1_;have GW115:=n2_;have GE115:=n3_;clear n0_ n1_ n2_ n3_;clear hb hbox hg;have hcz27_0:w26.cell? ⟨gb115,0,none⟩=some (.int .i64 0):=(zAE BK115.out 0).trans rfl;have hcz27_1:w26.cell? ⟨gb115,1,none⟩=some (.int .i64 0):=(zAE BK115.out 1).trans rfl;have hfz27_0:=zAC BK115.out 0;have hfz27_1:=zAC BK115.out 1;have p116:0≤((ji11):Int):=of_decide_eq_true (by first|(with_reducible assumption)|assumption);have q116:(ji11)<(l0.length:Int):=of_decide_eq_true (by first|(with_reducible assumption)|assumption);obtain ⟨ad116,e116,hx116_0,hx116_1⟩:=at_T45 HR0.out (ji11) p116 q116;obtain rfl:ad114=ad116:=(by injection e116);have hn116_0:ad114.block≠gb115:=Nat.ne_of_lt (Nat.lt_of_lt_of_le (by have:=World.block_lt_of_cell? _ _ hx116_0;first|rwa [zAX] at this|exact this) GW115.out);have hn116_1:ad114.block≠gb115:=Nat.ne_of_lt (Nat.lt_of_lt_of_le (by have:=World.block_lt_of_cell? _ _ hx116_0;first|rwa [zAX] at this|exact this) GW115.out);replace hx116_0:=(HB.out.cell (World.block_lt_of_cell? w _ hx116_0)).trans hx116_0;replace hx116_1:=(HB.out.cell (World.block_lt_of_cell? w _ hx116_1)).trans hx116_1;replace hx116_0:=(cell_far (p:=⟨gb115,0,none⟩) (by first|(rw [zAX];exact hn116_0)|(show (Addr.add _ _).block≠_;rw [zAX];exact hn116_0)|exact hn116_0) (.int .i64 ((zAd l0 x22_2).f0))).trans hx116_0;replace hx116_1:=(cell_far (p:=⟨gb115,0,none⟩) (by first|(rw [zAX];exact hn116_0)|(show (Addr.add _ _).block≠_;rw [zAX];exact hn116_0)|exact hn116_0) (.int .i64 ((zAd l0 x22_2).f0))).trans hx116_1;replace hx116_0:=(cell_far (p:=⟨gb115,1,none⟩) (by first|(rw [zAX];exact hn116_1)|(show (Addr.add _ _).block≠_;rw [zAX];exact hn116_1)|exact hn116_1) (.int .i64 ((zAd l0 x22_2).f1))).trans hx116_0;replace hx116_1:=(cell_far (p:=⟨gb115,1,none⟩) (by first|(rw [zAX];exact hn116_1)|(show (Addr.add _ _).block≠_;rw [zAX];exact hn116_1)|exact hn116_1) (.int .i64 ((zAd l0 x22_2).f1))).trans hx116_1;(try have hy116_0:=fun (n_:Nat)=>(show ((((w26.drewN n_).setCell ⟨gb115,0,none⟩ (.int .i64 ((zAd l0 x22_2).f0))).setCell ⟨gb115,1,none⟩ (.int .i64 ((zAd l0 x22_2).f1)))).cell? _=some _ from hx116_0));(try have hy116_1:=fun (n_:Nat)=>(show ((((w26.drewN n_).setCell ⟨gb115,0,none⟩ (.int .i64 ((zAd l0 x22_2).f0))).setCell ⟨gb115,1,none⟩ (.int .i64 ((zAd l0 x22_2).f1)))).cell? _=some _ from hx116_1));clear hn116_0;clear hn116_1;replace p116:=eq_true p116;replace q116:=eq_true q116)))
                go_roundg k2
                case measure=>have:=HJ1.out;have:=HK2.out;omega
                case rel=>exact ⟨(wrap64 (x22_2+1)),(by first|rfl|(simp;done)|(simp [*];done)),H',⟨by have:=HJ1.out;have:=HK2.out;omega⟩,⟨by repeat (first|(with_reducible first|exact HB.out|apply zAB|apply zAA|apply zAD|refine zAF ?_ GE115.out)|exact HB.out)⟩⟩
           ·rw [if_neg c13] at H
            exact absurd H (by simp)
          ·rw [if_neg c12] at H
           exact absurd H (by simp)
         ·rw [if_neg c10] at H
          have c10b0:decide (0<x22_2)=false:=decide_eq_false c10
          clear c10
          by_cases c28:((zAd l0 x22_2).f0) > 1000000000000
          ·rw [if_pos c28] at H
           have c28b0:decide (1000000000000<((zAd l0 x22_2).f0))=true:=decide_eq_true c28
           clear c28
           obtain rfl:=Option.some.inj H
           have p114:0≤(x22_2:Int):=of_decide_eq_true (by first|(with_reducible assumption)|assumption)
           have q114:x22_2<(l0.length:Int):=of_decide_eq_true (by first|(with_reducible assumption)|assumption)
           obtain ⟨ad114,e114,hx114_0,hx114_1⟩:=at_T45 HR0.out x22_2 p114 q114
           cases e114
           replace hx114_0:=(HB.out.cell (World.block_lt_of_cell? w _ hx114_0)).trans hx114_0
           replace hx114_1:=(HB.out.cell (World.block_lt_of_cell? w _ hx114_1)).trans hx114_1
           replace p114:=eq_true p114
           replace q114:=eq_true q114
           go_wp2_with (first|((with_reducible refine zAk (N:=4) rfl ?_);(try (refine gate_guard (by rfl) ?_;dsimp only));refine zAh ?hg (N:=4) ?hd (cs:=#[.int .i64 0,.int .i64 0]) (t:=45) ?hr ?_;(case hd=>rfl);(case hg=>rfl);(case hr=>first|(go_simp;done)|(go_simp;rfl));intro gb115 hg w29 hbox hb;have n0_:=aK_ (zAM (by repeat (first|(with_reducible first|exact HB.out|apply zAB|apply zAA|apply zAD)|exact HB.out)) hb);have n1_:=aK_ (hbox);have n2_:=aK_ ((by rw [hg];exact (zAK (by repeat (first|(with_reducible first|exact HB.out|apply zAB|apply zAA|apply zAD)|exact HB.out))):w.heap.size≤gb115));have n3_:=aK_ ((by rw [hg];exact (zAK (by repeat (first|(with_reducible first|exact HB.out|apply zAB|apply zAA|apply zAD)|exact HB.out))):w.heap.size≤gb115));clear HB;have HB:=n0_;have BK115:=n1_;have GW115:=n2_;have GE115:=n3_;clear n0_ n1_ n2_ n3_;clear hb hbox hg;have hcz30_0:w29.cell? ⟨gb115,0,none⟩=some (.int .i64 0):=(zAE BK115.out 0).trans rfl;have hcz30_1:w29.cell? ⟨gb115,1,none⟩=some (.int .i64 0):=(zAE BK115.out 1).trans rfl;have hfz30_0:=zAC BK115.out 0;have hfz30_1:=zAC BK115.out 1))
           repeat (go_quiet (first|((with_reducible refine zAk (N:=4) rfl ?_);(try (refine gate_guard (by rfl) ?_;dsimp only));refine zAh ?hg (N:=4) ?hd (cs:=#[.int .i64 0,.int .i64 0]) (t:=45) ?hr ?_;(case hd=>rfl);(case hg=>rfl);(case hr=>first|(go_simp;done)|(go_simp;rfl));intro gb115 hg w29 hbox hb;have n0_:=aK_ (zAM (by repeat (first|(with_reducible first|exact HB.out|apply zAB|apply zAA|apply zAD)|exact HB.out)) hb);have n1_:=aK_ (hbox);have n2_:=aK_ ((by rw [hg];exact (zAK (by repeat (first|(with_reducible first|exact HB.out|apply zAB|apply zAA|apply zAD)|exact HB.out))):w.heap.size≤gb115));have n3_:=aK_ ((by rw [hg];exact (zAK (by repeat (first|(with_reducible first|exact HB.out|apply zAB|apply zAA|apply zAD)|exact HB.out))):w.heap.size≤gb115));clear HB;have HB:=n0_;have BK115:=n1_;have GW115:=n2_;have GE115:=n3_;clear n0_ n1_ n2_ n3_;clear hb hbox hg;have hcz30_0:w29.cell? ⟨gb115,0,none⟩=some (.int .i64 0):=(zAE BK115.out 0).trans rfl;have hcz30_1:w29.cell? ⟨gb115,1,none⟩=some (.int .i64 0):=(zAE BK115.out 1).trans rfl;have hfz30_0:=zAC BK115.out 0;have hfz30_1:=zAC BK115.out 1));try go_wp2_with (first|((with_reducible refine zAk (N:=4) rfl ?_);(try (refine gate_guard (by rfl) ?_;dsimp only));refine zAh ?hg (N:=4) ?hd (cs:=#[.int .i64 0,.int .i64 0]) (t:=45) ?hr ?_;(case hd=>rfl);(case hg=>rfl);(case hr=>first|(go_simp;done)|(go_simp;rfl));intro gb115 hg w29 hbox hb;have n0_:=aK_ (zAM (by repeat (first|(with_reducible first|exact HB.out|apply zAB|apply zAA|apply zAD)|exact HB.out)) hb);have n1_:=aK_ (hbox);have n2_:=aK_ ((by rw [hg];exact (zAK (by repeat (first|(with_reducible first|exact HB.out|apply zAB|apply zAA|apply zAD)|exact HB.out))):w.heap.size≤gb115));have n3_:=aK_ ((by rw [hg];exact (zAK (by repeat (first|(with_reducible first|exact HB.out|apply zAB|apply zAA|apply zAD)|exact HB.out))):w.heap.size≤gb115));clear HB;have HB:=n0_;have BK115:=n1_;have GW115:=n2_;have GE115:=n3_;clear n0_ n1_ n2_ n3_;clear hb hbox hg;have hcz30_0:w29.cell? ⟨gb115,0,none⟩=some (.int .i64 0):=(zAE BK115.out 0).trans rfl;have hcz30_1:w29.cell? ⟨gb115,1,none⟩=some (.int .i64 0):=(zAE BK115.out 1).trans rfl;have hfz30_0:=zAC BK115.out 0;have hfz30_1:=zAC BK115.out 1)))
           go_ret
           exact ⟨by first|rfl|(simp [zAQ,zAP] <;> rfl)|(simp [*,zAQ,zAP] <;> rfl),by repeat (first|(with_reducible first|exact HB.out|apply zAB|apply zAA|apply zAD|refine zAF ?_ GE115.out)|exact HB.out)⟩
          ·rw [if_neg c28] at H
           have c28b0:decide (1000000000000<((zAd l0 x22_2).f0))=false:=decide_eq_false c28
           clear c28
           by_cases c31:((zAd l0 x22_2).f1)<(-1000000000000)
           ·rw [if_pos c31] at H
            have c31b0:decide (((zAd l0 x22_2).f1)<(-1000000000000))=true:=decide_eq_true c31
            clear c31
            obtain rfl:=Option.some.inj H
            have p114:0≤(x22_2:Int):=of_decide_eq_true (by first|(with_reducible assumption)|assumption)
            have q114:x22_2<(l0.length:Int):=of_decide_eq_true (by first|(with_reducible assumption)|assumption)
            obtain ⟨ad114,e114,hx114_0,hx114_1⟩:=at_T45 HR0.out x22_2 p114 q114
            cases e114
            replace hx114_0:=(HB.out.cell (World.block_lt_of_cell? w _ hx114_0)).trans hx114_0
            replace hx114_1:=(HB.out.cell (World.block_lt_of_cell? w _ hx114_1)).trans hx114_1
            replace p114:=eq_true p114
            replace q114:=eq_true q114
            go_wp2_with (first|((with_reducible refine zAk (N:=4) rfl ?_);(try (refine gate_guard (by rfl) ?_;dsimp only));refine zAh ?hg (N:=4) ?hd (cs:=#[.int .i64 0,.int .i64 0]) (t:=45) ?hr ?_;(case hd=>rfl);(case hg=>rfl);(case hr=>first|(go_simp;done)|(go_simp;rfl));intro gb115 hg w32 hbox hb;have n0_:=aK_ (zAM (by repeat (first|(with_reducible first|exact HB.out|apply zAB|apply zAA|apply zAD)|exact HB.out)) hb);have n1_:=aK_ (hbox);have n2_:=aK_ ((by rw [hg];exact (zAK (by repeat (first|(with_reducible first|exact HB.out|apply zAB|apply zAA|apply zAD)|exact HB.out))):w.heap.size≤gb115));have n3_:=aK_ ((by rw [hg];exact (zAK (by repeat (first|(with_reducible first|exact HB.out|apply zAB|apply zAA|apply zAD)|exact HB.out))):w.heap.size≤gb115));clear HB;have HB:=n0_;have BK115:=n1_;have GW115:=n2_;have GE115:=n3_;clear n0_ n1_ n2_ n3_;clear hb hbox hg;have hcz33_0:w32.cell? ⟨gb115,0,none⟩=some (.int .i64 0):=(zAE BK115.out 0).trans rfl;have hcz33_1:w32.cell? ⟨gb115,1,none⟩=some (.int .i64 0):=(zAE BK115.out 1).trans rfl;have hfz33_0:=zAC BK115.out 0;have hfz33_1:=zAC BK115.out 1))
            repeat (go_quiet (first|((with_reducible refine zAk (N:=4) rfl ?_);(try (refine gate_guard (by rfl) ?_;dsimp only));refine zAh ?hg (N:=4) ?hd (cs:=#[.int .i64 0,.int .i64 0]) (t:=45) ?hr ?_;(case hd=>rfl);(case hg=>rfl);(case hr=>first|(go_simp;done)|(go_simp;rfl));intro gb115 hg w32 hbox hb;have n0_:=aK_ (zAM (by repeat (first|(with_reducible first|exact HB.out|apply zAB|apply zAA|apply zAD)|exact HB.out)) hb);have n1_:=aK_ (hbox);have n2_:=aK_ ((by rw [hg];exact (zAK (by repeat (first|(with_reducible first|exact HB.out|apply zAB|apply zAA|apply zAD)|exact HB.out))):w.heap.size≤gb115));have n3_:=aK_ ((by rw [hg];exact (zAK (by repeat (first|(with_reducible first|exact HB.out|apply zAB|apply zAA|apply zAD)|exact HB.out))):w.heap.size≤gb115));clear HB;have HB:=n0_;have BK115:=n1_;have GW115:=n2_;have GE115:=n3_;clear n0_ n1_ n2_ n3_;clear hb hbox hg;have hcz33_0:w32.cell? ⟨gb115,0,none⟩=some (.int .i64 0):=(zAE BK115.out 0).trans rfl;have hcz33_1:w32.cell? ⟨gb115,1,none⟩=some (.int .i64 0):=(zAE BK115.out 1).trans rfl;have hfz33_0:=zAC BK115.out 0;have hfz33_1:=zAC BK115.out 1));try go_wp2_with (first|((with_reducible refine zAk (N:=4) rfl ?_);(try (refine gate_guard (by rfl) ?_;dsimp only));refine zAh ?hg (N:=4) ?hd (cs:=#[.int .i64 0,.int .i64 0]) (t:=45) ?hr ?_;(case hd=>rfl);(case hg=>rfl);(case hr=>first|(go_simp;done)|(go_simp;rfl));intro gb115 hg w32 hbox hb;have n0_:=aK_ (zAM (by repeat (first|(with_reducible first|exact HB.out|apply zAB|apply zAA|apply zAD)|exact HB.out)) hb);have n1_:=aK_ (hbox);have n2_:=aK_ ((by rw [hg];exact (zAK (by repeat (first|(with_reducible first|exact HB.out|apply zAB|apply zAA|apply zAD)|exact HB.out))):w.heap.size≤gb115));have n3_:=aK_ ((by rw [hg];exact (zAK (by repeat (first|(with_reducible first|exact HB.out|apply zAB|apply zAA|apply zAD)|exact HB.out))):w.heap.size≤gb115));clear HB;have HB:=n0_;have BK115:=n1_;have GW115:=n2_;have GE115:=n3_;clear n0_ n1_ n2_ n3_;clear hb hbox hg;have hcz33_0:w32.cell? ⟨gb115,0,none⟩=some (.int .i64 0):=(zAE BK115.out 0).trans rfl;have hcz33_1:w32.cell? ⟨gb115,1,none⟩=some (.int .i64 0):=(zAE BK115.out 1).trans rfl;have hfz33_0:=zAC BK115.out 0;have hfz33_1:=zAC BK115.out 1)))
            go_ret
            exact ⟨by first|rfl|(simp [zAQ,zAP] <;> rfl)|(simp [*,zAQ,zAP] <;> rfl),by repeat (first|(with_reducible first|exact HB.out|apply zAB|apply zAA|apply zAD|refine zAF ?_ GE115.out)|exact HB.out)⟩
           ·rw [if_neg c31] at H
            have c31b0:decide (((zAd l0 x22_2).f1)<(-1000000000000))=false:=decide_eq_false c31
            clear c31
            by_cases c34:((zAd l0 x22_2).f1) > 1000000000000
            ·rw [if_pos c34] at H
             have c34b0:decide (1000000000000<((zAd l0 x22_2).f1))=true:=decide_eq_true c34
             clear c34
             obtain rfl:=Option.some.inj H
             have p114:0≤(x22_2:Int):=of_decide_eq_true (by first|(with_reducible assumption)|assumption)
             have q114:x22_2<(l0.length:Int):=of_decide_eq_true (by first|(with_reducible assumption)|assumption)
             obtain ⟨ad114,e114,hx114_0,hx114_1⟩:=at_T45 HR0.out x22_2 p114 q114
             cases e114
             replace hx114_0:=(HB.out.cell (World.block_lt_of_cell? w _ hx114_0)).trans hx114_0
             replace hx114_1:=(HB.out.cell (World.block_lt_of_cell? w _ hx114_1)).trans hx114_1
             replace p114:=eq_true p114
             replace q114:=eq_true q114
             go_wp2_with (first|((with_reducible refine zAk (N:=4) rfl ?_);(try (refine gate_guard (by rfl) ?_;dsimp only));refine zAh ?hg (N:=4) ?hd (cs:=#[.int .i64 0,.int .i64 0]) (t:=45) ?hr ?_;(case hd=>rfl);(case hg=>rfl);(case hr=>first|(go_simp;done)|(go_simp;rfl));intro gb115 hg w35 hbox hb;have n0_:=aK_ (zAM (by repeat (first|(with_reducible first|exact HB.out|apply zAB|apply zAA|apply zAD)|exact HB.out)) hb);have n1_:=aK_ (hbox);have n2_:=aK_ ((by rw [hg];exact (zAK (by repeat (first|(with_reducible first|exact HB.out|apply zAB|apply zAA|apply zAD)|exact HB.out))):w.heap.size≤gb115));have n3_:=aK_ ((by rw [hg];exact (zAK (by repeat (first|(with_reducible first|exact HB.out|apply zAB|apply zAA|apply zAD)|exact HB.out))):w.heap.size≤gb115));clear HB;have HB:=n0_;have BK115:=n1_;have GW115:=n2_;have GE115:=n3_;clear n0_ n1_ n2_ n3_;clear hb hbox hg;have hcz36_0:w35.cell? ⟨gb115,0,none⟩=some (.int .i64 0):=(zAE BK115.out 0).trans rfl;have hcz36_1:w35.cell? ⟨gb115,1,none⟩=some (.int .i64 0):=(zAE BK115.out 1).trans rfl;have hfz36_0:=zAC BK115.out 0;have hfz36_1:=zAC BK115.out 1))
             repeat (go_quiet (first|((with_reducible refine zAk (N:=4) rfl ?_);(try (refine gate_guard (by rfl) ?_;dsimp only));refine zAh ?hg (N:=4) ?hd (cs:=#[.int .i64 0,.int .i64 0]) (t:=45) ?hr ?_;(case hd=>rfl);(case hg=>rfl);(case hr=>first|(go_simp;done)|(go_simp;rfl));intro gb115 hg w35 hbox hb;have n0_:=aK_ (zAM (by repeat (first|(with_reducible first|exact HB.out|apply zAB|apply zAA|apply zAD)|exact HB.out)) hb);have n1_:=aK_ (hbox);have n2_:=aK_ ((by rw [hg];exact (zAK (by repeat (first|(with_reducible first|exact HB.out|apply zAB|apply zAA|apply zAD)|exact HB.out))):w.heap.size≤gb115));have n3_:=aK_ ((by rw [hg];exact (zAK (by repeat (first|(with_reducible first|exact HB.out|apply zAB|apply zAA|apply zAD)|exact HB.out))):w.heap.size≤gb115));clear HB;have HB:=n0_;have BK115:=n1_;have GW115:=n2_;have GE115:=n3_;clear n0_ n1_ n2_ n3_;clear hb hbox hg;have hcz36_0:w35.cell? ⟨gb115,0,none⟩=some (.int .i64 0):=(zAE BK115.out 0).trans rfl;have hcz36_1:w35.cell? ⟨gb115,1,none⟩=some (.int .i64 0):=(zAE BK115.out 1).trans rfl;have hfz36_0:=zAC BK115.out 0;have hfz36_1:=zAC BK115.out 1));try go_wp2_with (first|((with_reducible refine zAk (N:=4) rfl ?_);(try (refine gate_guard (by rfl) ?_;dsimp only));refine zAh ?hg (N:=4) ?hd (cs:=#[.int .i64 0,.int .i64 0]) (t:=45) ?hr ?_;(case hd=>rfl);(case hg=>rfl);(case hr=>first|(go_simp;done)|(go_simp;rfl));intro gb115 hg w35 hbox hb;have n0_:=aK_ (zAM (by repeat (first|(with_reducible first|exact HB.out|apply zAB|apply zAA|apply zAD)|exact HB.out)) hb);have n1_:=aK_ (hbox);have n2_:=aK_ ((by rw [hg];exact (zAK (by repeat (first|(with_reducible first|exact HB.out|apply zAB|apply zAA|apply zAD)|exact HB.out))):w.heap.size≤gb115));have n3_:=aK_ ((by rw [hg];exact (zAK (by repeat (first|(with_reducible first|exact HB.out|apply zAB|apply zAA|apply zAD)|exact HB.out))):w.heap.size≤gb115));clear HB;have HB:=n0_;have BK115:=n1_;have GW115:=n2_;have GE115:=n3_;clear n0_ n1_ n2_ n3_;clear hb hbox hg;have hcz36_0:w35.cell? ⟨gb115,0,none⟩=some (.int .i64 0):=(zAE BK115.out 0).trans rfl;have hcz36_1:w35.cell? ⟨gb115,1,none⟩=some (.int .i64 0):=(zAE BK115.out 1).trans rfl;have hfz36_0:=zAC BK115.out 0;have hfz36_1:=zAC BK115.out 1)))
             go_ret
             exact ⟨by first|rfl|(simp [zAQ,zAP] <;> rfl)|(simp [*,zAQ,zAP] <;> rfl),by repeat (first|(with_reducible first|exact HB.out|apply zAB|apply zAA|apply zAD|refine zAF ?_ GE115.out)|exact HB.out)⟩
            ·rw [if_neg c34] at H
             have c34b0:decide (1000000000000<((zAd l0 x22_2).f1))=false:=decide_eq_false c34
             clear c34
             have H':=aK_ H
             clear H
             have p114:0≤(x22_2:Int):=of_decide_eq_true (by first|(with_reducible assumption)|assumption)
             have q114:x22_2<(l0.length:Int):=of_decide_eq_true (by first|(with_reducible assumption)|assumption)
             obtain ⟨ad114,e114,hx114_0,hx114_1⟩:=at_T45 HR0.out x22_2 p114 q114
             cases e114
             replace hx114_0:=(HB.out.cell (World.block_lt_of_cell? w _ hx114_0)).trans hx114_0
             replace hx114_1:=(HB.out.cell (World.block_lt_of_cell? w _ hx114_1)).trans hx114_1
             replace p114:=eq_true p114
             replace q114:=eq_true q114
             go_wp2_with (first|((with_reducible refine zAk (N:=4) rfl ?_);(try (refine gate_guard (by rfl) ?_;dsimp only));refine zAh ?hg (N:=4) ?hd (cs:=#[.int .i64 0,.int .i64 0]) (t:=45) ?hr ?_;(case hd=>rfl);(case hg=>rfl);(case hr=>first|(go_simp;done)|(go_simp;rfl));intro gb115 hg w37 hbox hb;have n0_:=aK_ (zAM (by repeat (first|(with_reducible first|exact HB.out|apply zAB|apply zAA|apply zAD)|exact HB.out)) hb);have n1_:=aK_ (hbox);have n2_:=aK_ ((by rw [hg];exact (zAK (by repeat (first|(with_reducible first|exact HB.out|apply zAB|apply zAA|apply zAD)|exact HB.out))):w.heap.size≤gb115));have n3_:=aK_ ((by rw [hg];exact (zAK (by repeat (first|(with_reducible first|exact HB.out|apply zAB|apply zAA|apply zAD)|exact HB.out))):w.heap.size≤gb115));clear HB;have HB:=n0_;have BK115:=n1_;have GW115:=n2_;have GE115:=n3_;clear n0_ n1_ n2_ n3_;clear hb hbox hg;have hcz38_0:w37.cell? ⟨gb115,0,none⟩=some (.int .i64 0):=(zAE BK115.out 0).trans rfl;have hcz38_1:w37.cell? ⟨gb115,1,none⟩=some (.int .i64 0):=(zAE BK115.out 1).trans rfl;have hfz38_0:=zAC BK115.out 0;have hfz38_1:=zAC BK115.out 1))
             repeat (go_quiet (first|((with_reducible refine zAk (N:=4) rfl ?_);(try (refine gate_guard (by rfl) ?_;dsimp only));refine zAh ?hg (N:=4) ?hd (cs:=#[.int .i64 0,.int .i64 0]) (t:=45) ?hr ?_;(case hd=>rfl);(case hg=>rfl);(case hr=>first|(go_simp;done)|(go_simp;rfl));intro gb115 hg w37 hbox hb;have n0_:=aK_ (zAM (by repeat (first|(with_reducible first|exact HB.out|apply zAB|apply zAA|apply zAD)|exact HB.out)) hb);have n1_:=aK_ (hbox);have n2_:=aK_ ((by rw [hg];exact (zAK (by repeat (first|(with_reducible first|exact HB.out|apply zAB|apply zAA|apply zAD)|exact HB.out))):w.heap.size≤gb115));have n3_:=aK_ ((by rw [hg];exact (zAK (by repeat (first|(with_reducible first|exact HB.out|apply zAB|apply zAA|apply zAD)|exact HB.out))):w.heap.size≤gb115));clear HB;have HB:=n0_;have BK115:=n1_;have GW115:=n2_;have GE115:=n3_;clear n0_ n1_ n2_ n3_;clear hb hbox hg;have hcz38_0:w37.cell? ⟨gb115,0,none⟩=some (.int .i64 0):=(zAE BK115.out 0).trans rfl;have hcz38_1:w37.cell? ⟨gb115,1,none⟩=some (.int .i64 0):=(zAE BK115.out 1).trans rfl;have hfz38_0:=zAC BK115.out 0;have hfz38_1:=zAC BK115.out 1));try go_wp2_with (first|((with_reducible refine zAk (N:=4) rfl ?_);(try (refine gate_guard (by rfl) ?_;dsimp only));refine zAh ?hg (N:=4) ?hd (cs:=#[.int .i64 0,.int .i64 0]) (t:=45) ?hr ?_;(case hd=>rfl);(case hg=>rfl);(case hr=>first|(go_simp;done)|(go_simp;rfl));intro gb115 hg w37 hbox hb;have n0_:=aK_ (zAM (by repeat (first|(with_reducible first|exact HB.out|apply zAB|apply zAA|apply zAD)|exact HB.out)) hb);have n1_:=aK_ (hbox);have n2_:=aK_ ((by rw [hg];exact (zAK (by repeat (first|(with_reducible first|exact HB.out|apply zAB|apply zAA|apply zAD)|exact HB.out))):w.heap.size≤gb115));have n3_:=aK_ ((by rw [hg];exact (zAK (by repeat (first|(with_reducible first|exact HB.out|apply zAB|apply zAA|apply zAD)|exact HB.out))):w.heap.size≤gb115));clear HB;have HB:=n0_;have BK115:=n1_;have GW115:=n2_;have GE115:=n3_;clear n0_ n1_ n2_ n3_;clear hb hbox hg;have hcz38_0:w37.cell? ⟨gb115,0,none⟩=some (.int .i64 0):=(zAE BK115.out 0).trans rfl;have hcz38_1:w37.cell? ⟨gb115,1,none⟩=some (.int .i64 0):=(zAE BK115.out 1).trans rfl;have hfz38_0:=zAC BK115.out 0;have hfz38_1:=zAC BK115.out 1)))
             go_roundg k2
             case measure=>have:=HJ1.out;have:=HK2.out;omega
             case rel=>exact ⟨(wrap64 (x22_2+1)),(by first|rfl|(simp;done)|(simp [*];done)),H',⟨by have:=HJ1.out;have:=HK2.out;omega⟩,⟨by repeat (first|(with_reducible first|exact HB.out|apply zAB|apply zAA|apply zAD|refine zAF ?_ GE115.out)|exact HB.out)⟩⟩
        ·rw [if_neg c9] at H
         exact absurd H (by simp)
       ·rw [if_neg c8] at H
        exact absurd H (by simp)
      ·rw [if_neg c7] at H
       have c7b0:decide (x22_2<(l0.length:Int))=false:=decide_eq_false c7
       clear c7
       obtain rfl:=Option.some.inj H
       go_wp2
       repeat (go_quiet (fail);try go_wp2)
       go_ret
       exact ⟨by first|rfl|(simp [zAQ,zAP] <;> rfl)|(simp [*,zAQ,zAP] <;> rfl),by repeat (first|(with_reducible first|exact HB.out|apply zAB|apply zAA|apply zAD)|exact HB.out)⟩
end Go.Proofs.YthbnigjckjkmnaaDoor.S

namespace Go.Proofs.YthbnigjckjkmnaaDoor.S
open Go.RowKit Go.Proofs.YthbnigjckjkmnaaDoorW.PrintWords Go.Proofs.YthbnigjckjkmnaaDoorW.PrintLast Go.Proofs.YthbnigjckjkmnaaDoorW.PrintMore
attribute [local go_sem] max2_int min2_int max_two min_two max_three min_three max_four min_four
def octroilaw05_five.f  : Option (ByteArray × (List (S47)) × Int × (List (S33))):=some ((⟨#[112]⟩:ByteArray),(([(⟨(⟨#[97]⟩:ByteArray),1⟩:S47)]:List (S47))),0,(([(⟨3,0,0,0,([]:List (S45)),0⟩:S33),(⟨2,3,0,0,([]:List (S45)),0⟩:S33),(⟨8,0,0,0,([]:List (S45)),0⟩:S33),(⟨2,5,0,0,([]:List (S45)),0⟩:S33),(⟨6,0,0,0,([]:List (S45)),0⟩:S33)]:List (S33))))
set_option maxHeartbeats 8000000 in
set_option maxRecDepth 100000 in
theorem octroilaw05_five.calls  (r1:ByteArray) (r2:List (S47)) (r3:Int) (r4:List (S33)) (w:World) (h:octroilaw05_five.f  = some (r1,r2,r3,r4)) :
  Calls Tryd.prog 36 #[] w fun e w'=>∃ v1_ v3_:Value,e = .returned (.agg #[.string r1,v1_,.int .i64 r3,v3_])∧Kd.R k47 47 w' w.heap.size (fun _=>True) v1_ r2∧Kd.S k33 33 w' w.heap.size (fun _=>True) v3_ r4∧Below w.heap.size w w':=by
 have hu25:=Tryd.underlying25
 have hu47:=Tryd.underlying47
 have hu33:=Tryd.underlying33
 have HB:=aK_ (Below.refl w.heap.size w)
 have H:(some ((⟨#[112]⟩:ByteArray),(([(⟨(⟨#[97]⟩:ByteArray),1⟩:S47)]:List (S47))),0,(([(⟨3,0,0,0,([]:List (S45)),0⟩:S33),(⟨2,3,0,0,([]:List (S45)),0⟩:S33),(⟨8,0,0,0,([]:List (S45)),0⟩:S33),(⟨2,5,0,0,([]:List (S45)),0⟩:S33),(⟨6,0,0,0,([]:List (S45)),0⟩:S33)]:List (S33)))))=some (r1,r2,r3,r4):=h
 clear h
 obtain ⟨y154,hy154⟩:∃ y_:List (S47),y_=(([(⟨(⟨#[97]⟩:ByteArray),1⟩:S47)]:List (S47))):=⟨_,rfl⟩
 replace H:(some ((⟨#[112]⟩:ByteArray),y154,0,(([(⟨3,0,0,0,([]:List (S45)),0⟩:S33),(⟨2,3,0,0,([]:List (S45)),0⟩:S33),(⟨8,0,0,0,([]:List (S45)),0⟩:S33),(⟨2,5,0,0,([]:List (S45)),0⟩:S33),(⟨6,0,0,0,([]:List (S45)),0⟩:S33)]:List (S33)))))=some (r1,r2,r3,r4):=by first|(rw [hy154];with_reducible exact H)|(have H2_:=(Option.bind_some _ _).symm.trans H;rw [hy154];with_reducible exact H2_)|(have H2_:=(Option.bind_some _ _).symm.trans H;with_reducible exact H2_)|with_reducible exact H|(rw [hy154];exact H)|exact H
 have Ny154:=aK_ hy154
 clear hy154
 obtain ⟨y157,hy157⟩:∃ y_:List (S33),y_=(([(⟨3,0,0,0,([]:List (S45)),0⟩:S33),(⟨2,3,0,0,([]:List (S45)),0⟩:S33),(⟨8,0,0,0,([]:List (S45)),0⟩:S33),(⟨2,5,0,0,([]:List (S45)),0⟩:S33),(⟨6,0,0,0,([]:List (S45)),0⟩:S33)]:List (S33))):=⟨_,rfl⟩
 replace H:(some ((⟨#[112]⟩:ByteArray),y154,0,y157))=some (r1,r2,r3,r4):=by first|(rw [hy157];with_reducible exact H)|(have H2_:=(Option.bind_some _ _).symm.trans H;rw [hy157];with_reducible exact H2_)|(have H2_:=(Option.bind_some _ _).symm.trans H;with_reducible exact H2_)|with_reducible exact H|(rw [hy157];exact H)|exact H
 have Ny157:=aK_ hy157
 clear hy157
 simp only [Option.some.injEq,Prod.mk.injEq] at H
 obtain ⟨rfl,rfl,rfl,rfl⟩:=H
 go_enter Tryd.func36,Tryd.ntmps36
 go_wp2_with (first|((with_reducible refine zAk (N:=0) rfl ?_);refine zAh ?hg (N:=0) ?hd (cs:=#[.string (⟨#[]⟩:ByteArray),.slice none 0 0,.int .i64 0,.slice none 0 0]) (t:=25) ?hr ?_;(case hd=>rfl);(case hg=>rfl);(case hr=>first|(go_simp;done)|(go_simp;rfl));intro gb153 hg w1 hbox hb;have n0_:=aK_ (zAM (by repeat (first|(with_reducible first|exact HB.out|apply zAB|apply zAA|apply zAD)|exact HB.out)) hb);have n1_:=aK_ (hbox);have n2_:=aK_ ((by rw [hg];exact (zAK (by repeat (first|(with_reducible first|exact HB.out|apply zAB|apply zAA|apply zAD)|exact HB.out))):w.heap.size≤gb153));have n3_:=aK_ ((by rw [hg];exact (zAK (by repeat (first|(with_reducible first|exact HB.out|apply zAB|apply zAA|apply zAD)|exact HB.out))):w.heap.size≤gb153));clear HB;have HB:=n0_;have BK153:=n1_;have GW153:=n2_;have GE153:=n3_;clear n0_ n1_ n2_ n3_;clear hb hbox hg)|((with_reducible refine zAk (N:=2) rfl ?_);refine Kd.R_lit k47 _ 47 ?hg (N:=2) ?hd (xs:=([(⟨(⟨#[97]⟩:ByteArray),1⟩:S47)]:List (S47))) (inner:=[.string (⟨#[97]⟩:ByteArray),.int .i64 1]) (ok:=fun _=>True) (okp:=fun _=>True) ?hr ?hp (fun _ hk=>hk) trivial (Below.refl _ _) (Nat.le_refl _) (by simp) ?_;(case hd=>rfl);(case hg=>rfl);(case hr=>first|(go_simp;done)|(go_simp;rfl));(case hp=>exact (Reps.c2 (show Kd.M k47 _ _ _ (⟨(⟨#[97]⟩:ByteArray),1⟩:S47) [.string (⟨#[97]⟩:ByteArray),.int .i64 1] from (k47_mkM _ _ _ (⟨(⟨#[97]⟩:ByteArray),1⟩:S47) )) (Reps.none _ _)));intro v155 w2 ho3 hb hg_ hnew_;clear hg_ hnew_;(first|rw [← Ny154.out] at ho3|(simp only [Int.reduceToNat] at ho3;rw [← Ny154.out] at ho3));have n0_:=aK_ (Kd.R_lower ho3 (zAK (by repeat (first|(with_reducible first|exact HB.out|apply zAB|apply zAA|apply zAD|refine zAF ?_ GE153.out)|exact HB.out))));have n1_:=aK_ (zAb (g:=gb153) (o:=.cells #[.string (⟨#[]⟩:ByteArray),.slice none 0 0,.int .i64 0,.slice none 0 0] 25 (0,0)) (by (with_reducible repeat (first|refine zAH ?_ _|refine zAJ ?_|refine zAI ?_ _));exact BK153.out) hb);have n2_:=aK_ (zAM (by repeat (first|(with_reducible first|exact HB.out|apply zAB|apply zAA|apply zAD|refine zAF ?_ GE153.out)|exact HB.out)) hb);clear BK153;clear HB;have HO156:=n0_;have BK153:=n1_;have HB:=n2_;clear n0_ n1_ n2_;clear hb ho3)|((with_reducible refine zAk (N:=8) rfl ?_);refine Kd.S_lit k33 _ 33 ?hg (N:=8) ?hd (xs:=([(⟨3,0,0,0,([]:List (S45)),0⟩:S33),(⟨2,3,0,0,([]:List (S45)),0⟩:S33),(⟨8,0,0,0,([]:List (S45)),0⟩:S33),(⟨2,5,0,0,([]:List (S45)),0⟩:S33),(⟨6,0,0,0,([]:List (S45)),0⟩:S33)]:List (S33))) (inner:=[.int .i64 3,.int .i64 0,.int .i64 0,.int .i64 0,.slice none 0 0,.int .i64 0,.int .i64 2,.int .i64 3,.int .i64 0,.int .i64 0,.slice none 0 0,.int .i64 0,.int .i64 8,.int .i64 0,.int .i64 0,.int .i64 0,.slice none 0 0,.int .i64 0,.int .i64 2,.int .i64 5,.int .i64 0,.int .i64 0,.slice none 0 0,.int .i64 0,.int .i64 6,.int .i64 0,.int .i64 0,.int .i64 0,.slice none 0 0,.int .i64 0]) (ok:=fun _=>True) (okp:=fun _=>True) ?hr ?hp (fun _ hk=>hk) trivial (Below.refl _ _) (Nat.le_refl _) (by simp) ?_;(case hd=>rfl);(case hg=>rfl);(case hr=>first|(go_simp;done)|(go_simp;rfl));(case hp=>exact (Reps.c6 (show Kd.M k33 _ _ _ (⟨3,0,0,0,([]:List (S45)),0⟩:S33) [.int .i64 3,.int .i64 0,.int .i64 0,.int .i64 0,.slice none 0 0,.int .i64 0] from (k33_mkM _ _ _ (⟨3,0,0,0,([]:List (S45)),0⟩:S33) (Kd.R_nil _ _ _ _ _))) (Reps.c6 (show Kd.M k33 _ _ _ (⟨2,3,0,0,([]:List (S45)),0⟩:S33) [.int .i64 2,.int .i64 3,.int .i64 0,.int .i64 0,.slice none 0 0,.int .i64 0] from (k33_mkM _ _ _ (⟨2,3,0,0,([]:List (S45)),0⟩:S33) (Kd.R_nil _ _ _ _ _))) (Reps.c6 (show Kd.M k33 _ _ _ (⟨8,0,0,0,([]:List (S45)),0⟩:S33) [.int .i64 8,.int .i64 0,.int .i64 0,.int .i64 0,.slice none 0 0,.int .i64 0] from (k33_mkM _ _ _ (⟨8,0,0,0,([]:List (S45)),0⟩:S33) (Kd.R_nil _ _ _ _ _))) (Reps.c6 (show Kd.M k33 _ _ _ (⟨2,5,0,0,([]:List (S45)),0⟩:S33) [.int .i64 2,.int .i64 5,.int .i64 0,.int .i64 0,.slice none 0 0,.int .i64 0] from (k33_mkM _ _ _ (⟨2,5,0,0,([]:List (S45)),0⟩:S33) (Kd.R_nil _ _ _ _ _))) (Reps.c6 (show Kd.M k33 _ _ _ (⟨6,0,0,0,([]:List (S45)),0⟩:S33) [.int .i64 6,.int .i64 0,.int .i64 0,.int .i64 0,.slice none 0 0,.int .i64 0] from (k33_mkM _ _ _ (⟨6,0,0,0,([]:List (S45)),0⟩:S33) (Kd.R_nil _ _ _ _ _))) (Reps.none _ _)))))));intro v158 w4 ho5 hb hg_ hnew_;clear hg_ hnew_;(first|rw [← Ny157.out] at ho5|(simp only [Int.reduceToNat] at ho5;rw [← Ny157.out] at ho5));have n0_:=aK_ (Kd.R_below (by (with_reducible repeat (first|apply Kd.R_alloc|apply Kd.R_drewN|apply Kd.R_drew));exact HO156.out) hb);have n1_:=aK_ (Kd.S_lower ho5 (zAK (by repeat (first|(with_reducible first|exact HB.out|apply zAB|apply zAA|apply zAD|refine zAF ?_ GE153.out)|exact HB.out))));have n2_:=aK_ (zAb (g:=gb153) (o:=.cells #[.string (⟨#[]⟩:ByteArray),.slice none 0 0,.int .i64 0,.slice none 0 0] 25 (0,0)) (by (with_reducible repeat (first|refine zAH ?_ _|refine zAJ ?_|refine zAI ?_ _));exact BK153.out) hb);have n3_:=aK_ (zAM (by repeat (first|(with_reducible first|exact HB.out|apply zAB|apply zAA|apply zAD|refine zAF ?_ GE153.out)|exact HB.out)) hb);clear HO156;clear BK153;clear HB;have HO156:=n0_;have HO159:=n1_;have BK153:=n2_;have HB:=n3_;clear n0_ n1_ n2_ n3_;clear hb ho5;obtain ⟨Ao6,co6,eo6⟩:=Kd.S_slice HO159.out;subst eo6;obtain ⟨Ao7,co7,eo7⟩:=Kd.R_slice HO156.out;subst eo7;have hcz8_0:w4.cell? ⟨gb153,0,none⟩=some (.string (⟨#[]⟩:ByteArray)):=(zAE BK153.out 0).trans rfl;have hcz8_1:w4.cell? ⟨gb153,1,none⟩=some (.slice none 0 0):=(zAE BK153.out 1).trans rfl;have hcz8_2:w4.cell? ⟨gb153,2,none⟩=some (.int .i64 0):=(zAE BK153.out 2).trans rfl;have hcz8_3:w4.cell? ⟨gb153,3,none⟩=some (.slice none 0 0):=(zAE BK153.out 3).trans rfl;have hfz8_0:=zAC BK153.out 0;have hfz8_1:=zAC BK153.out 1;have hfz8_2:=zAC BK153.out 2;have hfz8_3:=zAC BK153.out 3))
 refine bodyPost_ret (results_cell_row rfl _ _ gb153 25 #[.string (⟨#[112]⟩:ByteArray),.slice Ao7 y154.length co7,.int .i64 0,.slice Ao6 y157.length co6] (0,0) _ rfl (by (with_reducible repeat (first|refine zAH ?_ _|refine zAJ ?_|refine zAI ?_ _));refine zAq (cs:=#[.string (⟨#[112]⟩:ByteArray),.slice Ao7 y154.length co7,.int .i64 0,.slice none 0 0]) ?_ 3 _ rfl;(with_reducible repeat (first|refine zAH ?_ _|refine zAJ ?_|refine zAI ?_ _));refine zAq (cs:=#[.string (⟨#[112]⟩:ByteArray),.slice Ao7 y154.length co7,.int .i64 0,.slice none 0 0]) ?_ 2 _ rfl;(with_reducible repeat (first|refine zAH ?_ _|refine zAJ ?_|refine zAI ?_ _));refine zAq (cs:=#[.string (⟨#[112]⟩:ByteArray),.slice none 0 0,.int .i64 0,.slice none 0 0]) ?_ 1 _ rfl;(with_reducible repeat (first|refine zAH ?_ _|refine zAJ ?_|refine zAI ?_ _));refine zAq (cs:=#[.string (⟨#[]⟩:ByteArray),.slice none 0 0,.int .i64 0,.slice none 0 0]) ?_ 0 _ rfl;(with_reducible repeat (first|refine zAH ?_ _|refine zAJ ?_|refine zAI ?_ _));exact BK153.out) Tryd.underlying25 rfl (by kernel_rfl)) rfl ?_
 exact ⟨_,_,by first|rfl|(simp [zAQ,zAP] <;> rfl)|(simp [*,zAQ,zAP] <;> rfl),by (with_reducible repeat (first|apply Kd.R_alloc|apply Kd.R_drewN|apply Kd.R_drew));exact Kd.R_mono (Kd.R_far (p:=⟨gb153,3,none⟩) (Kd.R_far (p:=⟨gb153,2,none⟩) (Kd.R_far (p:=⟨gb153,1,none⟩) (Kd.R_far (p:=⟨gb153,0,none⟩) (Kd.R_types HO156.out BK153.out (by decide)) (fun _ hk=>hk.2) (.string (⟨#[112]⟩:ByteArray))) (fun _ hk=>hk.2) (.slice Ao7 y154.length co7)) (fun _ hk=>hk.2) (.int .i64 0)) (fun _ hk=>hk.2) (.slice Ao6 y157.length co6)) (fun _ hk=>trivial),by (with_reducible repeat (first|apply Kd.S_alloc|apply Kd.S_drewN|apply Kd.S_drew));exact Kd.S_mono (Kd.S_far (p:=⟨gb153,3,none⟩) (Kd.S_far (p:=⟨gb153,2,none⟩) (Kd.S_far (p:=⟨gb153,1,none⟩) (Kd.S_far (p:=⟨gb153,0,none⟩) (Kd.S_types HO159.out BK153.out (by decide)) (fun _ hk=>hk.2) (.string (⟨#[112]⟩:ByteArray))) (fun _ hk=>hk.2) (.slice Ao7 y154.length co7)) (fun _ hk=>hk.2) (.int .i64 0)) (fun _ hk=>hk.2) (.slice Ao6 y157.length co6)) (fun _ hk=>trivial),by repeat (first|(with_reducible first|exact HB.out|apply zAB|apply zAA|apply zAD|refine zAF ?_ GE153.out)|exact HB.out)⟩
end Go.Proofs.YthbnigjckjkmnaaDoor.S

namespace Go.Proofs.YthbnigjckjkmnaaDoor.S
open Go.RowKit Go.Proofs.YthbnigjckjkmnaaDoorW.PrintWords Go.Proofs.YthbnigjckjkmnaaDoorW.PrintLast Go.Proofs.YthbnigjckjkmnaaDoorW.PrintMore
attribute [local go_sem] max2_int min2_int max_two min_two max_three min_three max_four min_four
theorem eqA45 (d:Nat) (w:World) (x0 y0:Int) (x1 y1:Int) :
  (Op.equalIn (d+2) 45 (.agg #[.int .i64 x0,.int .i64 x1]) (.agg #[.int .i64 y0,.int .i64 y1])).run Tryd.prog w = .ok (x0 == y0 && (x1 == y1)) w:=by
 refine eqA_of Tryd.underlying45 (by kernel_rfl) ?_
 refine eqf_cons (by rfl) (by go_simp;rfl) (by go_simp;rfl) (by go_simp) ?_
 exact eqf_last (by rfl) (by go_simp;rfl) (by go_simp;rfl) (by go_simp)
end Go.Proofs.YthbnigjckjkmnaaDoor.S

namespace Go.Proofs.YthbnigjckjkmnaaDoor.S
open Go.RowKit Go.Proofs.YthbnigjckjkmnaaDoorW.PrintWords Go.Proofs.YthbnigjckjkmnaaDoorW.PrintLast Go.Proofs.YthbnigjckjkmnaaDoorW.PrintMore
attribute [local go_sem] max2_int min2_int max_two min_two max_three min_three max_four min_four
attribute [local go_sem high] eqA45
def zAn.l0:Nat→List (S45)→List (S45)→Int→Int→Option (Bool)
 |0,_,_,_,_=>none
 |k+1,x0,x1,x12,x13=>if x13<x12 then (if 0≤x13 then (if x13<(x0.length:Int) then (if x13<(x1.length:Int) then (if (!(((zAd x0 x13).f0) == ((zAd x1 x13).f0)) ||(!(((zAd x0 x13).f1) == ((zAd x1 x13).f1))))=true then (some false) else (zAn.l0 k x0 x1 x12 (wrap64 (x13+1)))) else (none)) else (none)) else (none)) else (some true)
def zAn.f (k:Nat) (l0:List (S45)) (l1:List (S45)):Option (Bool):=if (l0.length:Int)=(l1.length:Int) then (zAn.l0 k l0 l1 (l0.length:Int) 0) else (some false)
theorem zAn.mono_l:∀ k,(∀ y0 y1 y2 y3,LeO (zAn.l0 k y0 y1 y2 y3) (zAn.l0 (k+1) y0 y1 y2 y3))
 |0=>fun _ _ _ _ r h=>by simp [zAn.l0] at h
 |k+1=>by
  have ih0:=zAn.mono_l k
  ·intro y0 y1 y2 y3
   unfold zAn.l0
   repeat' first
   |(with_reducible exact ih0 _ _ _ _)
   |(with_reducible exact LeO.refl _)
   |(with_reducible exact LeO.none _)
   |(with_reducible refine LeO.ite ?_ ?_)
   |(with_reducible refine LeO.bind ?_ (fun _=>?_))
   |exact ih0 _ _ _ _
   |exact LeO.none _
   |refine LeO.ite ?_ ?_
   |refine LeO.bind ?_ (fun _=>?_)
theorem zAn.mono:∀ a0 a1 k,LeO (zAn.f k a0 a1) (zAn.f (k+1) a0 a1):=by
 intro a0 a1 k
 have ih0:=zAn.mono_l k
 unfold zAn.f
 repeat' first
   |(with_reducible exact ih0 _ _ _ _)
   |(with_reducible exact LeO.refl _)
   |(with_reducible exact LeO.none _)
   |(with_reducible refine LeO.ite ?_ ?_)
   |(with_reducible refine LeO.bind ?_ (fun _=>?_))
   |exact ih0 _ _ _ _
   |exact LeO.none _
   |refine LeO.ite ?_ ?_
   |refine LeO.bind ?_ (fun _=>?_)
set_option maxHeartbeats 8000000 in
set_option maxRecDepth 100000 in
theorem zAn.calls (k:Nat) (A0:Option Addr) (c0:Nat) (l0:List (S45)) (A1:Option Addr) (c1:Nat) (l1:List (S45)) (r:Bool) (w:World) (hr0:Kd.C k45 w A0 l0.length l0) (hc0:l0.length≤c0) (hr1:Kd.C k45 w A1 l1.length l1) (hc1:l1.length≤c1) (h:zAn.f k l0 l1=some r) :
  Calls Tryd.prog 44 #[.slice A0 l0.length c0,.slice A1 l1.length c1] w fun e w'=>e = .returned (.bool r)∧zAl w w':=by
 have hu45:=Tryd.underlying45
 have HR0:=aK_ hr0
 have HC0:=aK_ hc0
 clear hr0 hc0
 have HR1:=aK_ hr1
 have HC1:=aK_ hc1
 clear hr1 hc1
 have H:(if (l0.length:Int)=(l1.length:Int) then (zAn.l0 k l0 l1 (l0.length:Int) 0) else (some false))=some r:=h
 clear h
 by_cases c3:(l0.length:Int)=(l1.length:Int)
 ·rw [if_pos c3] at H
  have c3b0:((l0.length:Int) == (l1.length:Int))=true:=beq_iff_eq.mpr c3
  have c3b1:((l0.length:Int) != (l1.length:Int))=false:=bne_eq_false_iff_eq.mpr c3
  have c3b2:(l0.length == l1.length)=true:=by first|simpa using c3|(simp at c3 ⊢;omega)
  clear c3
  have H':=aK_ H
  clear H
  go_enter Tryd.func44,Tryd.ntmps44
  go_wp2
  repeat (go_quiet (fail);try go_wp2)
  (try simp only [Act.put,List.setIfInBounds_toArray,List.set_cons_zero,List.set_cons_succ])
  go_loopg [13] k (fun kq v13 w'=>∃ (x13_1:Int),v13 = .int .i64 x13_1∧zAg (zAn.l0 kq l0 l1 (l0.length:Int) x13_1=some r)∧zAg (kq≤k)∧zAl w w')
  case atStart=>exact ⟨(0),(by first|rfl|(simp;done)|(simp [*];done)),H',⟨Nat.le_refl _⟩,by repeat (first|exact zAl.refl _|apply zAl.step)⟩
  case round =>
   clear H'
   try clear c1
   try clear p2
   try clear c3
   try clear c3b0
   try clear c3b1
   try clear c3b2
   obtain ⟨x13_1,rfl,HA,HK1,⟨m1,rfl⟩⟩:=hrel
   cases gk with
   |zero=>exact absurd HA.out (by simp [zAn.l0])
   |succ k1 =>
    have H:=HA.out
    clear HA
    simp only [zAn.l0] at H
    by_cases c4:x13_1<(l0.length:Int)
    ·rw [if_pos c4] at H
     have c4b0:decide (x13_1<(l0.length:Int))=true:=decide_eq_true c4
     clear c4
     by_cases c5:0≤x13_1
     ·rw [if_pos c5] at H
      have c5b0:decide (0≤x13_1)=true:=decide_eq_true c5
      clear c5
      by_cases c6:x13_1<(l0.length:Int)
      ·rw [if_pos c6] at H
       have c6b0:decide (x13_1<(l0.length:Int))=true:=decide_eq_true c6
       clear c6
       by_cases c7:x13_1<(l1.length:Int)
       ·rw [if_pos c7] at H
        have c7b0:decide (x13_1<(l1.length:Int))=true:=decide_eq_true c7
        clear c7
        by_cases c8:(!(((zAd l0 x13_1).f0) == ((zAd l1 x13_1).f0)) ||(!(((zAd l0 x13_1).f1) == ((zAd l1 x13_1).f1))))=true
        ·rw [if_pos c8] at H
         have c8b0:(!(((zAd l0 x13_1).f0) == ((zAd l1 x13_1).f0)) ||(!(((zAd l0 x13_1).f1) == ((zAd l1 x13_1).f1))))=true:=c8
         clear c8
         obtain rfl:=Option.some.inj H
         have p101:0≤(x13_1:Int):=of_decide_eq_true (by first|(with_reducible assumption)|assumption)
         have q101:x13_1<(l0.length:Int):=of_decide_eq_true (by first|(with_reducible assumption)|assumption)
         obtain ⟨ad101,e101,hx101_0,hx101_1⟩:=at_T45 HR0.out x13_1 p101 q101
         cases e101
         replace p101:=eq_true p101
         replace q101:=eq_true q101
         have p102:0≤(x13_1:Int):=of_decide_eq_true (by first|(with_reducible assumption)|assumption)
         have q102:x13_1<(l1.length:Int):=of_decide_eq_true (by first|(with_reducible assumption)|assumption)
         obtain ⟨ad102,e102,hx102_0,hx102_1⟩:=at_T45 HR1.out x13_1 p102 q102
         cases e102
         replace p102:=eq_true p102
         replace q102:=eq_true q102
         go_wp2
         repeat (go_quiet (fail);try go_wp2)
         go_ret
         exact ⟨by first|rfl|(simp;done)|(simp [*];done),by repeat (first|exact zAl.refl _|apply zAl.step)⟩
        ·rw [if_neg c8] at H
         have c8b0:(!(((zAd l0 x13_1).f0) == ((zAd l1 x13_1).f0)) ||(!(((zAd l0 x13_1).f1) == ((zAd l1 x13_1).f1))))=false:=by simpa using c8
         clear c8
         have H':=aK_ H
         clear H
         have p101:0≤(x13_1:Int):=of_decide_eq_true (by first|(with_reducible assumption)|assumption)
         have q101:x13_1<(l0.length:Int):=of_decide_eq_true (by first|(with_reducible assumption)|assumption)
         obtain ⟨ad101,e101,hx101_0,hx101_1⟩:=at_T45 HR0.out x13_1 p101 q101
         cases e101
         replace p101:=eq_true p101
         replace q101:=eq_true q101
         have p102:0≤(x13_1:Int):=of_decide_eq_true (by first|(with_reducible assumption)|assumption)
         have q102:x13_1<(l1.length:Int):=of_decide_eq_true (by first|(with_reducible assumption)|assumption)
         obtain ⟨ad102,e102,hx102_0,hx102_1⟩:=at_T45 HR1.out x13_1 p102 q102
         cases e102
         replace p102:=eq_true p102
         replace q102:=eq_true q102
         go_wp2
         repeat (go_quiet (fail);try go_wp2)
         go_roundg k1
         case measure=>have:=HK1.out;omega
         case rel=>exact ⟨(wrap64 (x13_1+1)),(by first|rfl|(simp;done)|(simp [*];done)),H',⟨by have:=HK1.out;omega⟩,by repeat (first|exact zAl.refl _|apply zAl.step)⟩
       ·rw [if_neg c7] at H
        exact absurd H (by simp)
      ·rw [if_neg c6] at H
       exact absurd H (by simp)
     ·rw [if_neg c5] at H
      exact absurd H (by simp)
    ·rw [if_neg c4] at H
     have c4b0:decide (x13_1<(l0.length:Int))=false:=decide_eq_false c4
     clear c4
     obtain rfl:=Option.some.inj H
     go_wp2
     repeat (go_quiet (fail);try go_wp2)
     go_ret
     exact ⟨by first|rfl|(simp;done)|(simp [*];done),by repeat (first|exact zAl.refl _|apply zAl.step)⟩
 ·rw [if_neg c3] at H
  have c3b0:((l0.length:Int) == (l1.length:Int))=false:=beq_eq_false_iff_ne.mpr c3
  have c3b1:((l0.length:Int) != (l1.length:Int))=true:=bne_iff_ne.mpr c3
  have c3b2:(l0.length == l1.length)=false:=by first|simpa using c3|(simp at c3 ⊢;omega)
  obtain rfl:=Option.some.inj H
  go_enter Tryd.func44,Tryd.ntmps44
  go_wp2
  repeat (go_quiet (fail);try go_wp2)
  go_ret
  exact ⟨by first|rfl|(simp;done)|(simp [*];done),by repeat (first|exact zAl.refl _|apply zAl.step)⟩
end Go.Proofs.YthbnigjckjkmnaaDoor.S
