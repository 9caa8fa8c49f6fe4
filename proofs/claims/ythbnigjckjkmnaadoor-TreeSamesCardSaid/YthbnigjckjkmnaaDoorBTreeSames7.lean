/- What the proof needs, part 7 of 18. For every input the law TreeSames returns true, and each argument reads behind the call as it read before; the listed variable is tied to the program's text. -/
import Derived.Test.YthbnigjckjkmnaaDoorBTreeSames5
import Derived.Test.YthbnigjckjkmnaaDoorBTreeSames6
set_option linter.unusedVariables false
set_option linter.unusedSimpArgs false
namespace Go.Proofs.YthbnigjckjkmnaaDoor.S
open Go.RowKit Go.Proofs.YthbnigjckjkmnaaDoorW.PrintWords Go.Proofs.YthbnigjckjkmnaaDoorW.PrintLast Go.Proofs.YthbnigjckjkmnaaDoorW.PrintMore
attribute [local go_sem] max2_int min2_int max_two min_two max_three min_three max_four min_four
mutual
def zAY.l0:Nat→Int→Int→ByteArray→List (S47)→Int→List (S33)→Option (Int × Int)
 |0,_,_,_,_,_,_=>none
 |k+1,x5,x6,x211000,x211001,x211002,x211003=>if x6<(x211003.length:Int) then (if 0≤x6 then ((zAM.f k ((zAJ x211003 x6).f0) ((zAJ x211003 x6).f1) ((zAJ x211003 x6).f2) ((zAJ x211003 x6).f3) ((zAJ x211003 x6).f4) ((zAJ x211003 x6).f5)).bind fun t214=>(if t214<0 then (zAY.j1 k x5 x6 t214 true x211000 x211001 x211002 x211003 ((zAJ x211003 x6).f0) ((zAJ x211003 x6).f1) ((zAJ x211003 x6).f2) ((zAJ x211003 x6).f3) ((zAJ x211003 x6).f4) ((zAJ x211003 x6).f5)) else ((zAU.f k ((zAJ x211003 x6).f0) ((zAJ x211003 x6).f1) ((zAJ x211003 x6).f2) ((zAJ x211003 x6).f3) ((zAJ x211003 x6).f4) ((zAJ x211003 x6).f5) (x211001.length:Int)).bind fun t215=>(if t215=true then (zAY.j1 k x5 x6 t214 (decide (x5<t214)) x211000 x211001 x211002 x211003 ((zAJ x211003 x6).f0) ((zAJ x211003 x6).f1) ((zAJ x211003 x6).f2) ((zAJ x211003 x6).f3) ((zAJ x211003 x6).f4) ((zAJ x211003 x6).f5)) else (zAY.j1 k x5 x6 t214 true x211000 x211001 x211002 x211003 ((zAJ x211003 x6).f0) ((zAJ x211003 x6).f1) ((zAJ x211003 x6).f2) ((zAJ x211003 x6).f3) ((zAJ x211003 x6).f4) ((zAJ x211003 x6).f5)))))) else (none)) else (if x5=1 then (some (0,0)) else (some ((x211003.length:Int),50)))
def zAY.j1:Nat→Int→Int→Int→Bool→ByteArray→List (S47)→Int→List (S33)→Int→Int→Int→Int→List (S45)→Int→Option (Int × Int)
 |0,_,_,_,_,_,_,_,_,_,_,_,_,_,_=>none
 |k+1,x5,x6,x8,x46,x211000,x211001,x211002,x211003,x214000,x214001,x214002,x214003,x214004,x214005=>if x46=true then (some (x6,50)) else (if x214000=13 then ((zAR.f k x214004).bind fun t216=>(if t216=true then (zAY.l0 k (wrap64 ((wrap64 (x5 - x8))+1)) (wrap64 (x6+1)) x211000 x211001 x211002 x211003) else (some (x6,51)))) else (if x214000=14 then ((zAR.f k x214004).bind fun t217=>(if t217=true then (zAY.l0 k (wrap64 ((wrap64 (x5 - x8))+1)) (wrap64 (x6+1)) x211000 x211001 x211002 x211003) else (some (x6,51)))) else (zAY.l0 k (wrap64 ((wrap64 (x5 - x8))+1)) (wrap64 (x6+1)) x211000 x211001 x211002 x211003)))
end
def zAY.f (k:Nat) (a0_0:ByteArray) (l0_1:List (S47)) (a0_2:Int) (l0_3:List (S33)):Option (Int × Int):=(zAT.f k a0_0 l0_1 a0_2 l0_3).bind fun t211=>(if t211=0 then (if (l0_3.length:Int) > 1024 then (some (1024,2)) else (zAY.l0 k 0 0 a0_0 l0_1 a0_2 l0_3)) else (some ((-1),t211)))
theorem zAY.mono_l:∀ k,(∀ y0 y1 y2 y3 y4 y5,LeO (zAY.l0 k y0 y1 y2 y3 y4 y5) (zAY.l0 (k+1) y0 y1 y2 y3 y4 y5))∧(∀ y0 y1 y2 y3 y4 y5 y6 y7 y8 y9 y10 y11 y12 y13,LeO (zAY.j1 k y0 y1 y2 y3 y4 y5 y6 y7 y8 y9 y10 y11 y12 y13) (zAY.j1 (k+1) y0 y1 y2 y3 y4 y5 y6 y7 y8 y9 y10 y11 y12 y13))
 |0=>⟨fun _ _ _ _ _ _ r h=>by simp [zAY.l0] at h,fun _ _ _ _ _ _ _ _ _ _ _ _ _ _ r h=>by simp [zAY.j1] at h⟩
 |k+1=>by
  obtain ⟨ih0,ih1⟩:=zAY.mono_l k
  refine ⟨?_,?_⟩
  ·intro y0 y1 y2 y3 y4 y5
   unfold zAY.l0
   repeat' first
   |(with_reducible exact ih0 _ _ _ _ _ _)
   |(with_reducible exact ih1 _ _ _ _ _ _ _ _ _ _ _ _ _ _)
   |(with_reducible exact zAM.mono _ _ _ _ _ _ _)
   |(with_reducible exact zAU.mono _ _ _ _ _ _ _ _)
   |(with_reducible exact zAT.mono _ _ _ _ _)
   |(with_reducible exact zAR.mono _ _)
   |(with_reducible exact LeO.refl _)
   |(with_reducible exact LeO.none _)
   |(with_reducible refine LeO.ite ?_ ?_)
   |(with_reducible refine LeO.bind ?_ (fun _=>?_))
   |exact ih0 _ _ _ _ _ _
   |exact ih1 _ _ _ _ _ _ _ _ _ _ _ _ _ _
   |exact zAM.mono _ _ _ _ _ _ _
   |exact zAU.mono _ _ _ _ _ _ _ _
   |exact zAT.mono _ _ _ _ _
   |exact zAR.mono _ _
   |exact LeO.none _
   |refine LeO.ite ?_ ?_
   |refine LeO.bind ?_ (fun _=>?_)
  ·intro y0 y1 y2 y3 y4 y5 y6 y7 y8 y9 y10 y11 y12 y13
   unfold zAY.j1
   repeat' first
   |(with_reducible exact ih0 _ _ _ _ _ _)
   |(with_reducible exact ih1 _ _ _ _ _ _ _ _ _ _ _ _ _ _)
   |(with_reducible exact zAM.mono _ _ _ _ _ _ _)
   |(with_reducible exact zAU.mono _ _ _ _ _ _ _ _)
   |(with_reducible exact zAT.mono _ _ _ _ _)
   |(with_reducible exact zAR.mono _ _)
   |(with_reducible exact LeO.refl _)
   |(with_reducible exact LeO.none _)
   |(with_reducible refine LeO.ite ?_ ?_)
   |(with_reducible refine LeO.bind ?_ (fun _=>?_))
   |exact ih0 _ _ _ _ _ _
   |exact ih1 _ _ _ _ _ _ _ _ _ _ _ _ _ _
   |exact zAM.mono _ _ _ _ _ _ _
   |exact zAU.mono _ _ _ _ _ _ _ _
   |exact zAT.mono _ _ _ _ _
   |exact zAR.mono _ _
   |exact LeO.none _
   |refine LeO.ite ?_ ?_
   |refine LeO.bind ?_ (fun _=>?_)
theorem zAY.mono:∀ a0 a1 a2 a3 k,LeO (zAY.f k a0 a1 a2 a3) (zAY.f (k+1) a0 a1 a2 a3):=by
 intro a0 a1 a2 a3 k
 obtain ⟨ih0,ih1⟩:=zAY.mono_l k
 unfold zAY.f
 repeat' first
   |(with_reducible exact ih0 _ _ _ _ _ _)
   |(with_reducible exact ih1 _ _ _ _ _ _ _ _ _ _ _ _ _ _)
   |(with_reducible exact zAM.mono _ _ _ _ _ _ _)
   |(with_reducible exact zAU.mono _ _ _ _ _ _ _ _)
   |(with_reducible exact zAT.mono _ _ _ _ _)
   |(with_reducible exact zAR.mono _ _)
   |(with_reducible exact LeO.refl _)
   |(with_reducible exact LeO.none _)
   |(with_reducible refine LeO.ite ?_ ?_)
   |(with_reducible refine LeO.bind ?_ (fun _=>?_))
   |exact ih0 _ _ _ _ _ _
   |exact ih1 _ _ _ _ _ _ _ _ _ _ _ _ _ _
   |exact zAM.mono _ _ _ _ _ _ _
   |exact zAU.mono _ _ _ _ _ _ _ _
   |exact zAT.mono _ _ _ _ _
   |exact zAR.mono _ _
   |exact LeO.none _
   |refine LeO.ite ?_ ?_
   |refine LeO.bind ?_ (fun _=>?_)
set_option maxHeartbeats 8000000 in
set_option maxRecDepth 100000 in
theorem zAY.calls (k:Nat) (a0_0:ByteArray) (A0_1:Option Addr) (c0_1:Nat) (l0_1:List (S47)) (a0_2:Int) (A0_3:Option Addr) (c0_3:Nat) (l0_3:List (S33)) (r1:Int) (r2:Int) (w:World) (hr0_1:Kd.C k47 w A0_1 l0_1.length l0_1) (hc0_1:l0_1.length≤c0_1) (hr0_3:Kd.C k33 w A0_3 l0_3.length l0_3) (hc0_3:l0_3.length≤c0_3) (h:zAY.f k a0_0 l0_1 a0_2 l0_3=some (r1,r2)) :
  Calls Tryd.prog 17 #[.agg #[.string a0_0,.slice A0_1 l0_1.length c0_1,.int .i64 a0_2,.slice A0_3 l0_3.length c0_3]] w fun e w'=>e = .returned (.tuple #[.int .i64 r1,.int .i64 r2])∧Below w.heap.size w w':=by
 have hu25:=Tryd.underlying25
 have hu33:=Tryd.underlying33
 have HR0_1:=aK_ hr0_1
 have HC0_1:=aK_ hc0_1
 clear hr0_1 hc0_1
 have HR0_3:=aK_ hr0_3
 have HC0_3:=aK_ hc0_3
 clear hr0_3 hc0_3
 have HB:=aK_ (Below.refl w.heap.size w)
 have H:((zAT.f k a0_0 l0_1 a0_2 l0_3).bind fun t211=>(if t211=0 then (if (l0_3.length:Int) > 1024 then (some (1024,2)) else (zAY.l0 k 0 0 a0_0 l0_1 a0_2 l0_3)) else (some ((-1),t211))))=some (r1,r2):=h
 clear h
 replace H:=Option.bind_eq_some_iff.mp H
 obtain ⟨t211,A20,H⟩:=H
 replace H:(if t211=0 then (if (l0_3.length:Int) > 1024 then (some (1024,2)) else (zAY.l0 k 0 0 a0_0 l0_1 a0_2 l0_3)) else (some ((-1),t211)))=some (r1,r2):=H
 have A2:=aK_ A20
 clear A20
 by_cases c3:t211=0
 ·rw [if_pos c3] at H
  have c3b0:(t211 == 0)=true:=beq_iff_eq.mpr c3
  have c3b1:(t211 != 0)=false:=bne_eq_false_iff_eq.mpr c3
  clear c3
  by_cases c4:(l0_3.length:Int) > 1024
  ·rw [if_pos c4] at H
   have c4b0:decide (1024<(l0_3.length:Int))=true:=decide_eq_true c4
   have c4b1:decide (1024<l0_3.length)=true:=decide_eq_true (by omega)
   clear c4
   simp only [Option.some.injEq,Prod.mk.injEq] at H
   obtain ⟨rfl,rfl⟩:=H
   go_enter Tryd.func17,Tryd.ntmps17
   go_wp2_with (first|((with_reducible refine zAf (N:=1) rfl ?_);(try (refine zAj (by rfl) ?_;dsimp only));refine zAd ?hg (N:=1) ?hd (cs:=#[.string a0_0,.slice A0_1 l0_1.length c0_1,.int .i64 a0_2,.slice A0_3 l0_3.length c0_3]) (t:=25) ?hr ?_;(case hd=>rfl);(case hg=>rfl);(case hr=>first|(go_simp;done)|(go_simp;rfl));intro gb210 hg w5 hbox hb;have n0_:=aK_ (zAN (by repeat (first|(with_reducible first|exact HB.out|apply zAB|apply zAA|apply zAE)|exact HB.out)) hb);have n1_:=aK_ (hbox);have n2_:=aK_ ((by rw [hg];exact (zAK (by repeat (first|(with_reducible first|exact HB.out|apply zAB|apply zAA|apply zAE)|exact HB.out))):w.heap.size≤gb210));have n3_:=aK_ ((by rw [hg];exact (zAK (by repeat (first|(with_reducible first|exact HB.out|apply zAB|apply zAA|apply zAE)|exact HB.out))):w.heap.size≤gb210));clear HB;have HB:=n0_;have BK210:=n1_;have GW210:=n2_;have GE210:=n3_;clear n0_ n1_ n2_ n3_;clear hb hbox hg;have hcz6_0:w5.cell? ⟨gb210,0,none⟩=some (.string a0_0):=(zAD BK210.out 0).trans rfl;have hcz6_1:w5.cell? ⟨gb210,1,none⟩=some (.slice A0_1 l0_1.length c0_1):=(zAD BK210.out 1).trans rfl;have hcz6_2:w5.cell? ⟨gb210,2,none⟩=some (.int .i64 a0_2):=(zAD BK210.out 2).trans rfl;have hcz6_3:w5.cell? ⟨gb210,3,none⟩=some (.slice A0_3 l0_3.length c0_3):=(zAD BK210.out 3).trans rfl;have hfz6_0:=zAC BK210.out 0;have hfz6_1:=zAC BK210.out 1;have hfz6_2:=zAC BK210.out 2;have hfz6_3:=zAC BK210.out 3)|((with_reducible refine gate_callee (f:=40) rfl ?_);refine goesL_ (some 10) rfl rfl Tryd.func40 (by kernel_rfl) rfl #[.agg #[.string a0_0,.slice A0_1 l0_1.length c0_1,.int .i64 a0_2,.slice A0_3 l0_3.length c0_3]] rfl (by (try simp only [List.map_toArray,List.map_cons,List.map_nil]);first|done|rfl|(simp only [List.length_drop,List.length_take];rfl)) ?_;(with_reducible refine (zAT.calls k a0_0 _ _ l0_1 a0_2 _ _ l0_3 t211 _ ?side1 ?side2 ?side3 ?side4 A2.out).mono ?_);(case side1=>repeat (first|exact (Kd.C_below HR0_1.out HB.out)|(with_reducible refine Kd.C_alloc ?_ _)|(with_reducible refine Kd.C_drewN ?_ _)|(with_reducible refine Kd.C_drew ?_)));(case side2=>exact HC0_1.out);(case side3=>repeat (first|exact (Kd.C_below HR0_3.out HB.out)|(with_reducible refine Kd.C_alloc ?_ _)|(with_reducible refine Kd.C_drewN ?_ _)|(with_reducible refine Kd.C_drew ?_)));(case side4=>exact HC0_3.out);rintro e w7 ⟨rfl,hb⟩;refine ⟨_,rfl,?_⟩;have n0_:=aK_ (zAV (g:=gb210) (o:=.cells #[.string a0_0,.slice A0_1 l0_1.length c0_1,.int .i64 a0_2,.slice A0_3 l0_3.length c0_3] 25 (0,0)) (by (with_reducible repeat (first|refine zAG ?_ _|refine zAI ?_|refine zAH ?_ _));exact BK210.out) hb);have n1_:=aK_ (zAN (by repeat (first|(with_reducible first|exact HB.out|apply zAB|apply zAA|apply zAE|refine zAF ?_ GE210.out)|exact HB.out)) hb);clear BK210;clear HB;have BK210:=n0_;have HB:=n1_;clear n0_ n1_;(try clear hb);(try clear hb2);(try clear hk);(try clear hi);have hcz8_0:w7.cell? ⟨gb210,0,none⟩=some (.string a0_0):=(zAD BK210.out 0).trans rfl;have hcz8_1:w7.cell? ⟨gb210,1,none⟩=some (.slice A0_1 l0_1.length c0_1):=(zAD BK210.out 1).trans rfl;have hcz8_2:w7.cell? ⟨gb210,2,none⟩=some (.int .i64 a0_2):=(zAD BK210.out 2).trans rfl;have hcz8_3:w7.cell? ⟨gb210,3,none⟩=some (.slice A0_3 l0_3.length c0_3):=(zAD BK210.out 3).trans rfl;have hfz8_0:=zAC BK210.out 0;have hfz8_1:=zAC BK210.out 1;have hfz8_2:=zAC BK210.out 2;have hfz8_3:=zAC BK210.out 3))
   go_ret2
   exact ⟨by first|rfl|(simp [zAP,zAQ] <;> rfl)|(simp [*,zAP,zAQ] <;> rfl),by repeat (first|(with_reducible first|exact HB.out|apply zAB|apply zAA|apply zAE|refine zAF ?_ GE210.out)|exact HB.out)⟩
  ·rw [if_neg c4] at H
   have c4b0:decide (1024<(l0_3.length:Int))=false:=decide_eq_false c4
   have c4b1:decide (1024<l0_3.length)=false:=decide_eq_false (by omega)
   clear c4
   have H':=aK_ H
   clear H
   go_enter Tryd.func17,Tryd.ntmps17
   go_wp2_with (first|((with_reducible refine zAf (N:=1) rfl ?_);(try (refine zAj (by rfl) ?_;dsimp only));refine zAd ?hg (N:=1) ?hd (cs:=#[.string a0_0,.slice A0_1 l0_1.length c0_1,.int .i64 a0_2,.slice A0_3 l0_3.length c0_3]) (t:=25) ?hr ?_;(case hd=>rfl);(case hg=>rfl);(case hr=>first|(go_simp;done)|(go_simp;rfl));intro gb210 hg w9 hbox hb;have n0_:=aK_ (zAN (by repeat (first|(with_reducible first|exact HB.out|apply zAB|apply zAA|apply zAE)|exact HB.out)) hb);have n1_:=aK_ (hbox);have n2_:=aK_ ((by rw [hg];exact (zAK (by repeat (first|(with_reducible first|exact HB.out|apply zAB|apply zAA|apply zAE)|exact HB.out))):w.heap.size≤gb210));have n3_:=aK_ ((by rw [hg];exact (zAK (by repeat (first|(with_reducible first|exact HB.out|apply zAB|apply zAA|apply zAE)|exact HB.out))):w.heap.size≤gb210));clear HB;have HB:=n0_;have BK210:=n1_;have GW210:=n2_;have GE210:=n3_;clear n0_ n1_ n2_ n3_;clear hb hbox hg;have hcz10_0:w9.cell? ⟨gb210,0,none⟩=some (.string a0_0):=(zAD BK210.out 0).trans rfl;have hcz10_1:w9.cell? ⟨gb210,1,none⟩=some (.slice A0_1 l0_1.length c0_1):=(zAD BK210.out 1).trans rfl;have hcz10_2:w9.cell? ⟨gb210,2,none⟩=some (.int .i64 a0_2):=(zAD BK210.out 2).trans rfl;have hcz10_3:w9.cell? ⟨gb210,3,none⟩=some (.slice A0_3 l0_3.length c0_3):=(zAD BK210.out 3).trans rfl;have hfz10_0:=zAC BK210.out 0;have hfz10_1:=zAC BK210.out 1;have hfz10_2:=zAC BK210.out 2;have hfz10_3:=zAC BK210.out 3)|((with_reducible refine gate_callee (f:=40) rfl ?_);refine goesL_ (some 10) rfl rfl Tryd.func40 (by kernel_rfl) rfl #[.agg #[.string a0_0,.slice A0_1 l0_1.length c0_1,.int .i64 a0_2,.slice A0_3 l0_3.length c0_3]] rfl (by (try simp only [List.map_toArray,List.map_cons,List.map_nil]);first|done|rfl|(simp only [List.length_drop,List.length_take];rfl)) ?_;(with_reducible refine (zAT.calls k a0_0 _ _ l0_1 a0_2 _ _ l0_3 t211 _ ?side1 ?side2 ?side3 ?side4 A2.out).mono ?_);(case side1=>repeat (first|exact (Kd.C_below HR0_1.out HB.out)|(with_reducible refine Kd.C_alloc ?_ _)|(with_reducible refine Kd.C_drewN ?_ _)|(with_reducible refine Kd.C_drew ?_)));(case side2=>exact HC0_1.out);(case side3=>repeat (first|exact (Kd.C_below HR0_3.out HB.out)|(with_reducible refine Kd.C_alloc ?_ _)|(with_reducible refine Kd.C_drewN ?_ _)|(with_reducible refine Kd.C_drew ?_)));(case side4=>exact HC0_3.out);rintro e w11 ⟨rfl,hb⟩;refine ⟨_,rfl,?_⟩;have n0_:=aK_ (zAV (g:=gb210) (o:=.cells #[.string a0_0,.slice A0_1 l0_1.length c0_1,.int .i64 a0_2,.slice A0_3 l0_3.length c0_3] 25 (0,0)) (by (with_reducible repeat (first|refine zAG ?_ _|refine zAI ?_|refine zAH ?_ _));exact BK210.out) hb);have n1_:=aK_ (zAN (by repeat (first|(with_reducible first|exact HB.out|apply zAB|apply zAA|apply zAE|refine zAF ?_ GE210.out)|exact HB.out)) hb);clear BK210;clear HB;have BK210:=n0_;have HB:=n1_;clear n0_ n1_;(try clear hb);(try clear hb2);(try clear hk);(try clear hi);have hcz12_0:w11.cell? ⟨gb210,0,none⟩=some (.string a0_0):=(zAD BK210.out 0).trans rfl;have hcz12_1:w11.cell? ⟨gb210,1,none⟩=some (.slice A0_1 l0_1.length c0_1):=(zAD BK210.out 1).trans rfl;have hcz12_2:w11.cell? ⟨gb210,2,none⟩=some (.int .i64 a0_2):=(zAD BK210.out 2).trans rfl;have hcz12_3:w11.cell? ⟨gb210,3,none⟩=some (.slice A0_3 l0_3.length c0_3):=(zAD BK210.out 3).trans rfl;have hfz12_0:=zAC BK210.out 0;have hfz12_1:=zAC BK210.out 1;have hfz12_2:=zAC BK210.out 2;have hfz12_3:=zAC BK210.out 3))
   (try simp only [Act.put,List.setIfInBounds_toArray,List.set_cons_zero,List.set_cons_succ])
   go_loopg [5,6] k (fun kq v5 v6 w'=>∃ (x5_1:Int) (x6_1:Int),v5 = .int .i64 x5_1∧v6 = .int .i64 x6_1∧zAg (zAY.l0 kq x5_1 x6_1 a0_0 l0_1 a0_2 l0_3=some (r1,r2))∧zAg (kq≤k)∧zAg (w'.heap[gb210]?=some (.cells #[.string a0_0,(.slice A0_1 l0_1.length c0_1),.int .i64 a0_2,(.slice A0_3 l0_3.length c0_3)] 25 (0,0)))∧zAg (Below w.heap.size w w'))
   case atStart=>exact ⟨(0),(0),(by first|rfl|(simp;done)|(simp [*];done)),(by first|rfl|(simp;done)|(simp [*];done)),H',⟨Nat.le_refl _⟩,⟨by (with_reducible repeat (first|refine zAG ?_ _|refine zAI ?_|refine zAH ?_ _));exact BK210.out⟩,⟨by repeat (first|(with_reducible first|exact HB.out|apply zAB|apply zAA|apply zAE|refine zAF ?_ GE210.out)|exact HB.out)⟩⟩
   case round =>
    clear H'
    try clear c1
    try clear p2
    try clear c3
    try clear c3b0
    try clear c3b1
    try clear c4
    try clear c4b0
    try clear c4b1
    try clear hcz10_0
    try clear hcz10_1
    try clear hcz10_2
    try clear hcz10_3
    try clear hcz12_0
    try clear hcz12_1
    try clear hcz12_2
    try clear hcz12_3
    try clear hcz6_0
    try clear hcz6_1
    try clear hcz6_2
    try clear hcz6_3
    try clear hcz8_0
    try clear hcz8_1
    try clear hcz8_2
    try clear hcz8_3
    try clear hfz10_0
    try clear hfz10_1
    try clear hfz10_2
    try clear hfz10_3
    try clear hfz12_0
    try clear hfz12_1
    try clear hfz12_2
    try clear hfz12_3
    try clear hfz6_0
    try clear hfz6_1
    try clear hfz6_2
    try clear hfz6_3
    try clear hfz8_0
    try clear hfz8_1
    try clear hfz8_2
    try clear hfz8_3
    obtain ⟨x5_1,x6_1,rfl,rfl,HA,HK1,BK210,HB⟩:=hrel
    cases gk with
    |zero=>exact absurd HA.out (by simp [zAY.l0])
    |succ k1 =>
     have H:=HA.out
     clear HA
     simp only [zAY.l0] at H
     by_cases c13:x6_1<(l0_3.length:Int)
     ·rw [if_pos c13] at H
      have c13b0:decide (x6_1<(l0_3.length:Int))=true:=decide_eq_true c13
      clear c13
      by_cases c14:0≤x6_1
      ·rw [if_pos c14] at H
       have c14b0:decide (0≤x6_1)=true:=decide_eq_true c14
       clear c14
       replace H:=Option.bind_eq_some_iff.mp H
       obtain ⟨t214,A150,H⟩:=H
       replace H:(if t214<0 then (zAY.j1 k1 x5_1 x6_1 t214 true a0_0 l0_1 a0_2 l0_3 ((zAJ l0_3 x6_1).f0) ((zAJ l0_3 x6_1).f1) ((zAJ l0_3 x6_1).f2) ((zAJ l0_3 x6_1).f3) ((zAJ l0_3 x6_1).f4) ((zAJ l0_3 x6_1).f5)) else ((zAU.f k1 ((zAJ l0_3 x6_1).f0) ((zAJ l0_3 x6_1).f1) ((zAJ l0_3 x6_1).f2) ((zAJ l0_3 x6_1).f3) ((zAJ l0_3 x6_1).f4) ((zAJ l0_3 x6_1).f5) (l0_1.length:Int)).bind fun t215=>(if t215=true then (zAY.j1 k1 x5_1 x6_1 t214 (decide (x5_1<t214)) a0_0 l0_1 a0_2 l0_3 ((zAJ l0_3 x6_1).f0) ((zAJ l0_3 x6_1).f1) ((zAJ l0_3 x6_1).f2) ((zAJ l0_3 x6_1).f3) ((zAJ l0_3 x6_1).f4) ((zAJ l0_3 x6_1).f5)) else (zAY.j1 k1 x5_1 x6_1 t214 true a0_0 l0_1 a0_2 l0_3 ((zAJ l0_3 x6_1).f0) ((zAJ l0_3 x6_1).f1) ((zAJ l0_3 x6_1).f2) ((zAJ l0_3 x6_1).f3) ((zAJ l0_3 x6_1).f4) ((zAJ l0_3 x6_1).f5)))))=some (r1,r2):=H
       have A15:=aK_ A150
       clear A150
       have HC16:=aK_ H
       clear H
       have hcz17_0:wr.cell? ⟨gb210,0,none⟩=some (.string a0_0):=(zAD BK210.out 0).trans rfl
       have hcz17_1:wr.cell? ⟨gb210,1,none⟩=some (.slice A0_1 l0_1.length c0_1):=(zAD BK210.out 1).trans rfl
       have hcz17_2:wr.cell? ⟨gb210,2,none⟩=some (.int .i64 a0_2):=(zAD BK210.out 2).trans rfl
       have hcz17_3:wr.cell? ⟨gb210,3,none⟩=some (.slice A0_3 l0_3.length c0_3):=(zAD BK210.out 3).trans rfl
       have hfz17_0:=zAC BK210.out 0
       have hfz17_1:=zAC BK210.out 1
       have hfz17_2:=zAC BK210.out 2
       have hfz17_3:=zAC BK210.out 3
       have p212:0≤(x6_1:Int):=of_decide_eq_true (by first|(with_reducible assumption)|assumption)
       have q212:x6_1<(l0_3.length:Int):=of_decide_eq_true (by first|(with_reducible assumption)|assumption)
       obtain ⟨ad212,A212_4,c212_4,e212,hx212_0,hx212_1,hx212_2,hx212_3,hx212_4,hx212_5,hl212_4,hi212_4⟩:=at_T33 HR0_3.out x6_1 p212 q212
       cases e212
       replace hx212_0:=(HB.out.cell (World.block_lt_of_cell? w _ hx212_0)).trans hx212_0
       replace hx212_1:=(HB.out.cell (World.block_lt_of_cell? w _ hx212_1)).trans hx212_1
       replace hx212_2:=(HB.out.cell (World.block_lt_of_cell? w _ hx212_2)).trans hx212_2
       replace hx212_3:=(HB.out.cell (World.block_lt_of_cell? w _ hx212_3)).trans hx212_3
       replace hx212_4:=(HB.out.cell (World.block_lt_of_cell? w _ hx212_4)).trans hx212_4
       replace hx212_5:=(HB.out.cell (World.block_lt_of_cell? w _ hx212_5)).trans hx212_5
       have HR212_4:=aK_ hi212_4
       have HC212_4:=aK_ hl212_4
       clear hi212_4 hl212_4
       replace p212:=eq_true p212
       replace q212:=eq_true q212
       go_upto_region 12 with (first|((with_reducible refine zAf (N:=7) rfl ?_);(try (refine zAj (by rfl) ?_;dsimp only));refine zAd ?hg (N:=7) ?hd (cs:=#[.int .i64 0,.int .i64 0,.int .i64 0,.int .i64 0,.slice none 0 0,.int .i64 0]) (t:=33) ?hr ?_;(case hd=>rfl);(case hg=>rfl);(case hr=>first|(go_simp;done)|(go_simp;rfl));intro gb213 hg w18 hbox hb;have n0_:=aK_ (zAV (g:=gb210) (o:=.cells #[.string a0_0,.slice A0_1 l0_1.length c0_1,.int .i64 a0_2,.slice (some ad212) l0_3.length c0_3] 25 (0,0)) (by (with_reducible repeat (first|refine zAG ?_ _|refine zAI ?_|refine zAH ?_ _));exact BK210.out) hb);have n1_:=aK_ (zAN (by repeat (first|(with_reducible first|exact HB.out|apply zAB|apply zAA|apply zAE|refine zAF ?_ GE210.out)|exact HB.out)) hb);have n2_:=aK_ (hbox);have n3_:=aK_ ((by rw [hg];exact (zAK (by repeat (first|(with_reducible first|exact HB.out|apply zAB|apply zAA|apply zAE|refine zAF ?_ GE210.out)|exact HB.out))):w.heap.size≤gb213));have n4_:=aK_ ((by rw [hg];exact (zAK (by repeat (first|(with_reducible first|exact HB.out|apply zAB|apply zAA|apply zAE|refine zAF ?_ GE210.out)|exact HB.out))):w.heap.size≤gb213));have n5_:=aK_ ((by rw [hg];exact Nat.ne_of_lt (blk_lt (g:=gb210) (o:=.cells #[.string a0_0,.slice A0_1 l0_1.length c0_1,.int .i64 a0_2,.slice (some ad212) l0_3.length c0_3] 25 (0,0)) (by (with_reducible repeat (first|refine zAG ?_ _|refine zAI ?_|refine zAH ?_ _));exact BK210.out)):gb210≠gb213));have n6_:=aK_ ((by rw [hg];exact Nat.ne_of_gt (blk_lt (g:=gb210) (o:=.cells #[.string a0_0,.slice A0_1 l0_1.length c0_1,.int .i64 a0_2,.slice (some ad212) l0_3.length c0_3] 25 (0,0)) (by (with_reducible repeat (first|refine zAG ?_ _|refine zAI ?_|refine zAH ?_ _));exact BK210.out)):gb213≠gb210));clear BK210;clear HB;have BK210:=n0_;have HB:=n1_;have BK213:=n2_;have GW213:=n3_;have GE213:=n4_;have NB210_213:=n5_;have NB213_210:=n6_;clear n0_ n1_ n2_ n3_ n4_ n5_ n6_;clear hb hbox hg;have hnb19:=NB213_210.out;have hnc19:=NB210_213.out;have hcz20_0:w18.cell? ⟨gb213,0,none⟩=some (.int .i64 0):=(zAD BK213.out 0).trans rfl;have hcz20_1:w18.cell? ⟨gb213,1,none⟩=some (.int .i64 0):=(zAD BK213.out 1).trans rfl;have hcz20_2:w18.cell? ⟨gb213,2,none⟩=some (.int .i64 0):=(zAD BK213.out 2).trans rfl;have hcz20_3:w18.cell? ⟨gb213,3,none⟩=some (.int .i64 0):=(zAD BK213.out 3).trans rfl;have hcz20_4:w18.cell? ⟨gb213,4,none⟩=some (.slice none 0 0):=(zAD BK213.out 4).trans rfl;have hcz20_5:w18.cell? ⟨gb213,5,none⟩=some (.int .i64 0):=(zAD BK213.out 5).trans rfl;have hfz20_0:=zAC BK213.out 0;have hfz20_1:=zAC BK213.out 1;have hfz20_2:=zAC BK213.out 2;have hfz20_3:=zAC BK213.out 3;have hfz20_4:=zAC BK213.out 4;have hfz20_5:=zAC BK213.out 5)|((with_reducible refine gate_callee (f:=24) rfl ?_);refine goesL_ (some 31) rfl rfl Tryd.func24 (by kernel_rfl) rfl #[.agg #[.int .i64 ((zAJ l0_3 x6_1).f0),.int .i64 ((zAJ l0_3 x6_1).f1),.int .i64 ((zAJ l0_3 x6_1).f2),.int .i64 ((zAJ l0_3 x6_1).f3),.slice A212_4 ((zAJ l0_3 x6_1).f4).length c212_4,.int .i64 ((zAJ l0_3 x6_1).f5)]] rfl (by (try simp only [List.map_toArray,List.map_cons,List.map_nil]);first|done|rfl|(simp only [List.length_drop,List.length_take];rfl)) ?_;(with_reducible refine (zAM.calls k1 ((zAJ l0_3 x6_1).f0) ((zAJ l0_3 x6_1).f1) ((zAJ l0_3 x6_1).f2) ((zAJ l0_3 x6_1).f3) _ _ ((zAJ l0_3 x6_1).f4) ((zAJ l0_3 x6_1).f5) t214 _ ?side1 ?side2 A15.out).mono ?_);(case side1=>exact Kd.C_below HR212_4.out (by repeat (first|(with_reducible first|exact HB.out|apply zAB|apply zAA|apply zAE|refine zAF ?_ GE210.out|refine zAF ?_ GE213.out)|exact HB.out)));(case side2=>exact HC212_4.out);rintro e w21 ⟨rfl,hb⟩;refine ⟨_,rfl,?_⟩;have n0_:=aK_ (zAV (g:=gb210) (o:=.cells #[.string a0_0,.slice A0_1 l0_1.length c0_1,.int .i64 a0_2,.slice (some ad212) l0_3.length c0_3] 25 (0,0)) (by (with_reducible repeat (first|refine zAG ?_ _|refine zAI ?_|refine zAH ?_ _));refine blk_far ?_ NB210_213.out _;(with_reducible repeat (first|refine zAG ?_ _|refine zAI ?_|refine zAH ?_ _));refine blk_far ?_ NB210_213.out _;(with_reducible repeat (first|refine zAG ?_ _|refine zAI ?_|refine zAH ?_ _));refine blk_far ?_ NB210_213.out _;(with_reducible repeat (first|refine zAG ?_ _|refine zAI ?_|refine zAH ?_ _));refine blk_far ?_ NB210_213.out _;(with_reducible repeat (first|refine zAG ?_ _|refine zAI ?_|refine zAH ?_ _));refine blk_far ?_ NB210_213.out _;(with_reducible repeat (first|refine zAG ?_ _|refine zAI ?_|refine zAH ?_ _));refine blk_far ?_ NB210_213.out _;(with_reducible repeat (first|refine zAG ?_ _|refine zAI ?_|refine zAH ?_ _));exact BK210.out) hb);have n1_:=aK_ (zAV (g:=gb213) (o:=.cells #[.int .i64 ((zAJ l0_3 x6_1).f0),.int .i64 ((zAJ l0_3 x6_1).f1),.int .i64 ((zAJ l0_3 x6_1).f2),.int .i64 ((zAJ l0_3 x6_1).f3),.slice A212_4 ((zAJ l0_3 x6_1).f4).length c212_4,.int .i64 ((zAJ l0_3 x6_1).f5)] 33 (0,0)) (by (with_reducible repeat (first|refine zAG ?_ _|refine zAI ?_|refine zAH ?_ _));refine blk_put (cs:=#[.int .i64 ((zAJ l0_3 x6_1).f0),.int .i64 ((zAJ l0_3 x6_1).f1),.int .i64 ((zAJ l0_3 x6_1).f2),.int .i64 ((zAJ l0_3 x6_1).f3),.slice A212_4 ((zAJ l0_3 x6_1).f4).length c212_4,.int .i64 0]) ?_ 5 _ rfl;(with_reducible repeat (first|refine zAG ?_ _|refine zAI ?_|refine zAH ?_ _));refine blk_put (cs:=#[.int .i64 ((zAJ l0_3 x6_1).f0),.int .i64 ((zAJ l0_3 x6_1).f1),.int .i64 ((zAJ l0_3 x6_1).f2),.int .i64 ((zAJ l0_3 x6_1).f3),.slice none 0 0,.int .i64 0]) ?_ 4 _ rfl;(with_reducible repeat (first|refine zAG ?_ _|refine zAI ?_|refine zAH ?_ _));refine blk_put (cs:=#[.int .i64 ((zAJ l0_3 x6_1).f0),.int .i64 ((zAJ l0_3 x6_1).f1),.int .i64 ((zAJ l0_3 x6_1).f2),.int .i64 0,.slice none 0 0,.int .i64 0]) ?_ 3 _ rfl;(with_reducible repeat (first|refine zAG ?_ _|refine zAI ?_|refine zAH ?_ _));refine blk_put (cs:=#[.int .i64 ((zAJ l0_3 x6_1).f0),.int .i64 ((zAJ l0_3 x6_1).f1),.int .i64 0,.int .i64 0,.slice none 0 0,.int .i64 0]) ?_ 2 _ rfl;(with_reducible repeat (first|refine zAG ?_ _|refine zAI ?_|refine zAH ?_ _));refine blk_put (cs:=#[.int .i64 ((zAJ l0_3 x6_1).f0),.int .i64 0,.int .i64 0,.int .i64 0,.slice none 0 0,.int .i64 0]) ?_ 1 _ rfl;(with_reducible repeat (first|refine zAG ?_ _|refine zAI ?_|refine zAH ?_ _));refine blk_put (cs:=#[.int .i64 0,.int .i64 0,.int .i64 0,.int .i64 0,.slice none 0 0,.int .i64 0]) ?_ 0 _ rfl;(with_reducible repeat (first|refine zAG ?_ _|refine zAI ?_|refine zAH ?_ _));exact BK213.out) hb);have n2_:=aK_ (zAN (by repeat (first|(with_reducible first|exact HB.out|apply zAB|apply zAA|apply zAE|refine zAF ?_ GE210.out|refine zAF ?_ GE213.out)|exact HB.out)) hb);clear BK210;clear BK213;clear HB;have BK210:=n0_;have BK213:=n1_;have HB:=n2_;clear n0_ n1_ n2_;(try clear hb);(try clear hb2);(try clear hk);(try clear hi)))
       (try simp only [Act.put,List.setIfInBounds_toArray,List.set_cons_zero,List.set_cons_succ])
       go_cut [46] (fun v46 wc=>∃ (kq:Nat) (x46_15:Bool),v46 = .bool x46_15∧zAg (zAY.j1 kq x5_1 x6_1 t214 x46_15 a0_0 l0_1 a0_2 l0_3 ((zAJ l0_3 x6_1).f0) ((zAJ l0_3 x6_1).f1) ((zAJ l0_3 x6_1).f2) ((zAJ l0_3 x6_1).f3) ((zAJ l0_3 x6_1).f4) ((zAJ l0_3 x6_1).f5)=some (r1,r2))∧zAg (kq≤k1)∧zAg (wc.heap[gb210]?=some (.cells #[.string a0_0,(.slice A0_1 l0_1.length c0_1),.int .i64 a0_2,(.slice (some ad212) l0_3.length c0_3)] 25 (0,0)))∧zAg (wc.heap[gb213]?=some (.cells #[.int .i64 ((zAJ l0_3 x6_1).f0),.int .i64 ((zAJ l0_3 x6_1).f1),.int .i64 ((zAJ l0_3 x6_1).f2),.int .i64 ((zAJ l0_3 x6_1).f3),(.slice A212_4 ((zAJ l0_3 x6_1).f4).length c212_4),.int .i64 ((zAJ l0_3 x6_1).f5)] 33 (0,0)))∧zAg (Below w.heap.size w wc))
       case first =>
        have H:=HC16.out
        clear HC16
        by_cases c22:t214<0
        ·rw [if_pos c22] at H
         have c22b0:decide (t214<0)=true:=decide_eq_true c22
         clear c22
         (first|rw [c22b0]|(simp only [i64_w,i32_w];rw [c22b0])|skip)
         have H':=aK_ H
         clear H
         go_wp2
         go_meet
         case rel=>exact ⟨_,(true),(by first|rfl|(simp;done)|(simp [*];done)),H',⟨by have:=HK1.out;first|omega|exact Nat.le_refl _⟩,⟨by (with_reducible repeat (first|refine zAG ?_ _|refine zAI ?_|refine zAH ?_ _));exact BK210.out⟩,⟨by (with_reducible repeat (first|refine zAG ?_ _|refine zAI ?_|refine zAH ?_ _));exact BK213.out⟩,⟨by repeat (first|(with_reducible first|exact HB.out|apply zAB|apply zAA|apply zAE|refine zAF ?_ GE210.out|refine zAF ?_ GE213.out)|exact HB.out)⟩⟩
        ·rw [if_neg c22] at H
         have c22b0:decide (t214<0)=false:=decide_eq_false c22
         clear c22
         (first|rw [c22b0]|(simp only [i64_w,i32_w];rw [c22b0])|skip)
         replace H:=Option.bind_eq_some_iff.mp H
         obtain ⟨t215,A230,H⟩:=H
         replace H:(if t215=true then (zAY.j1 k1 x5_1 x6_1 t214 (decide (x5_1<t214)) a0_0 l0_1 a0_2 l0_3 ((zAJ l0_3 x6_1).f0) ((zAJ l0_3 x6_1).f1) ((zAJ l0_3 x6_1).f2) ((zAJ l0_3 x6_1).f3) ((zAJ l0_3 x6_1).f4) ((zAJ l0_3 x6_1).f5)) else (zAY.j1 k1 x5_1 x6_1 t214 true a0_0 l0_1 a0_2 l0_3 ((zAJ l0_3 x6_1).f0) ((zAJ l0_3 x6_1).f1) ((zAJ l0_3 x6_1).f2) ((zAJ l0_3 x6_1).f3) ((zAJ l0_3 x6_1).f4) ((zAJ l0_3 x6_1).f5)))=some (r1,r2):=H
         have A23:=aK_ A230
         clear A230
         by_cases c24:t215=true
         ·subst c24
          have H1:(zAY.j1 k1 x5_1 x6_1 t214 (decide (x5_1<t214)) a0_0 l0_1 a0_2 l0_3 ((zAJ l0_3 x6_1).f0) ((zAJ l0_3 x6_1).f1) ((zAJ l0_3 x6_1).f2) ((zAJ l0_3 x6_1).f3) ((zAJ l0_3 x6_1).f4) ((zAJ l0_3 x6_1).f5))=some (r1,r2):=by rw [if_pos rfl] at H;exact H
          clear H
          have H:=H1
          clear H1
          have H':=aK_ H
          clear H
          have hnb25:=NB213_210.out
          have hnc25:=NB210_213.out
          have hcz26_0:w21.cell? ⟨gb213,0,none⟩=some (.int .i64 ((zAJ l0_3 x6_1).f0)):=(zAD BK213.out 0).trans rfl
          have hcz26_1:w21.cell? ⟨gb213,1,none⟩=some (.int .i64 ((zAJ l0_3 x6_1).f1)):=(zAD BK213.out 1).trans rfl
          have hcz26_2:w21.cell? ⟨gb213,2,none⟩=some (.int .i64 ((zAJ l0_3 x6_1).f2)):=(zAD BK213.out 2).trans rfl
          have hcz26_3:w21.cell? ⟨gb213,3,none⟩=some (.int .i64 ((zAJ l0_3 x6_1).f3)):=(zAD BK213.out 3).trans rfl
          have hcz26_4:w21.cell? ⟨gb213,4,none⟩=some (.slice A212_4 ((zAJ l0_3 x6_1).f4).length c212_4):=(zAD BK213.out 4).trans rfl
          have hcz26_5:w21.cell? ⟨gb213,5,none⟩=some (.int .i64 ((zAJ l0_3 x6_1).f5)):=(zAD BK213.out 5).trans rfl
          have hfz26_0:=zAC BK213.out 0
          have hfz26_1:=zAC BK213.out 1
          have hfz26_2:=zAC BK213.out 2
          have hfz26_3:=zAC BK213.out 3
          have hfz26_4:=zAC BK213.out 4
          have hfz26_5:=zAC BK213.out 5
          have hcz27_0:w21.cell? ⟨gb210,0,none⟩=some (.string a0_0):=(zAD BK210.out 0).trans rfl
          have hcz27_1:w21.cell? ⟨gb210,1,none⟩=some (.slice A0_1 l0_1.length c0_1):=(zAD BK210.out 1).trans rfl
          have hcz27_2:w21.cell? ⟨gb210,2,none⟩=some (.int .i64 a0_2):=(zAD BK210.out 2).trans rfl
          have hcz27_3:w21.cell? ⟨gb210,3,none⟩=some (.slice (some ad212) l0_3.length c0_3):=(zAD BK210.out 3).trans rfl
          have hfz27_0:=zAC BK210.out 0
          have hfz27_1:=zAC BK210.out 1
          have hfz27_2:=zAC BK210.out 2
          have hfz27_3:=zAC BK210.out 3
          go_wp2_with (first|(go_at_call 41;(with_reducible refine (zAU.calls k1 ((zAJ l0_3 x6_1).f0) ((zAJ l0_3 x6_1).f1) ((zAJ l0_3 x6_1).f2) ((zAJ l0_3 x6_1).f3) _ _ ((zAJ l0_3 x6_1).f4) ((zAJ l0_3 x6_1).f5) (l0_1.length:Int) true _ ?side1 ?side2 A23.out).mono ?_);(case side1=>repeat (first|exact (Kd.C_below HR212_4.out HB.out)|(with_reducible refine Kd.C_alloc ?_ _)|(with_reducible refine Kd.C_drewN ?_ _)|(with_reducible refine Kd.C_drew ?_)));(case side2=>exact HC212_4.out);rintro e w28 ⟨rfl,hb⟩;have n0_:=aK_ (zAV (g:=gb210) (o:=.cells #[.string a0_0,.slice A0_1 l0_1.length c0_1,.int .i64 a0_2,.slice (some ad212) l0_3.length c0_3] 25 (0,0)) (by (with_reducible repeat (first|refine zAG ?_ _|refine zAI ?_|refine zAH ?_ _));exact BK210.out) hb);have n1_:=aK_ (zAV (g:=gb213) (o:=.cells #[.int .i64 ((zAJ l0_3 x6_1).f0),.int .i64 ((zAJ l0_3 x6_1).f1),.int .i64 ((zAJ l0_3 x6_1).f2),.int .i64 ((zAJ l0_3 x6_1).f3),.slice A212_4 ((zAJ l0_3 x6_1).f4).length c212_4,.int .i64 ((zAJ l0_3 x6_1).f5)] 33 (0,0)) (by (with_reducible repeat (first|refine zAG ?_ _|refine zAI ?_|refine zAH ?_ _));exact BK213.out) hb);have n2_:=aK_ (zAN (by repeat (first|(with_reducible first|exact HB.out|apply zAB|apply zAA|apply zAE|refine zAF ?_ GE210.out|refine zAF ?_ GE213.out)|exact HB.out)) hb);clear BK210;clear BK213;clear HB;have BK210:=n0_;have BK213:=n1_;have HB:=n2_;clear n0_ n1_ n2_;(try clear hb);(try clear hb2);(try clear hk);(try clear hi)))
          go_meet
          case rel=>exact ⟨_,(decide (x5_1<t214)),(by first|rfl|(simp;done)|(simp [*];done)),H',⟨by have:=HK1.out;first|omega|exact Nat.le_refl _⟩,⟨by (with_reducible repeat (first|refine zAG ?_ _|refine zAI ?_|refine zAH ?_ _));exact BK210.out⟩,⟨by (with_reducible repeat (first|refine zAG ?_ _|refine zAI ?_|refine zAH ?_ _));exact BK213.out⟩,⟨by repeat (first|(with_reducible first|exact HB.out|apply zAB|apply zAA|apply zAE|refine zAF ?_ GE210.out|refine zAF ?_ GE213.out)|exact HB.out)⟩⟩
         ·replace c24:=Bool.eq_false_iff.mpr c24
          subst c24
          have H1:(zAY.j1 k1 x5_1 x6_1 t214 true a0_0 l0_1 a0_2 l0_3 ((zAJ l0_3 x6_1).f0) ((zAJ l0_3 x6_1).f1) ((zAJ l0_3 x6_1).f2) ((zAJ l0_3 x6_1).f3) ((zAJ l0_3 x6_1).f4) ((zAJ l0_3 x6_1).f5))=some (r1,r2):=by rw [if_neg (show ¬ (false=true) by decide)] at H;exact H
          clear H
          have H:=H1
          clear H1
          have H':=aK_ H
          clear H
          have hnb29:=NB213_210.out
          have hnc29:=NB210_213.out
          have hcz30_0:w21.cell? ⟨gb213,0,none⟩=some (.int .i64 ((zAJ l0_3 x6_1).f0)):=(zAD BK213.out 0).trans rfl
          have hcz30_1:w21.cell? ⟨gb213,1,none⟩=some (.int .i64 ((zAJ l0_3 x6_1).f1)):=(zAD BK213.out 1).trans rfl
          have hcz30_2:w21.cell? ⟨gb213,2,none⟩=some (.int .i64 ((zAJ l0_3 x6_1).f2)):=(zAD BK213.out 2).trans rfl
          have hcz30_3:w21.cell? ⟨gb213,3,none⟩=some (.int .i64 ((zAJ l0_3 x6_1).f3)):=(zAD BK213.out 3).trans rfl
          have hcz30_4:w21.cell? ⟨gb213,4,none⟩=some (.slice A212_4 ((zAJ l0_3 x6_1).f4).length c212_4):=(zAD BK213.out 4).trans rfl
          have hcz30_5:w21.cell? ⟨gb213,5,none⟩=some (.int .i64 ((zAJ l0_3 x6_1).f5)):=(zAD BK213.out 5).trans rfl
          have hfz30_0:=zAC BK213.out 0
          have hfz30_1:=zAC BK213.out 1
          have hfz30_2:=zAC BK213.out 2
          have hfz30_3:=zAC BK213.out 3
          have hfz30_4:=zAC BK213.out 4
          have hfz30_5:=zAC BK213.out 5
          have hcz31_0:w21.cell? ⟨gb210,0,none⟩=some (.string a0_0):=(zAD BK210.out 0).trans rfl
          have hcz31_1:w21.cell? ⟨gb210,1,none⟩=some (.slice A0_1 l0_1.length c0_1):=(zAD BK210.out 1).trans rfl
          have hcz31_2:w21.cell? ⟨gb210,2,none⟩=some (.int .i64 a0_2):=(zAD BK210.out 2).trans rfl
          have hcz31_3:w21.cell? ⟨gb210,3,none⟩=some (.slice (some ad212) l0_3.length c0_3):=(zAD BK210.out 3).trans rfl
          have hfz31_0:=zAC BK210.out 0
          have hfz31_1:=zAC BK210.out 1
          have hfz31_2:=zAC BK210.out 2
          have hfz31_3:=zAC BK210.out 3
          go_wp2_with (first|(go_at_call 41;(with_reducible refine (zAU.calls k1 ((zAJ l0_3 x6_1).f0) ((zAJ l0_3 x6_1).f1) ((zAJ l0_3 x6_1).f2) ((zAJ l0_3 x6_1).f3) _ _ ((zAJ l0_3 x6_1).f4) ((zAJ l0_3 x6_1).f5) (l0_1.length:Int) false _ ?side1 ?side2 A23.out).mono ?_);(case side1=>repeat (first|exact (Kd.C_below HR212_4.out HB.out)|(with_reducible refine Kd.C_alloc ?_ _)|(with_reducible refine Kd.C_drewN ?_ _)|(with_reducible refine Kd.C_drew ?_)));(case side2=>exact HC212_4.out);rintro e w32 ⟨rfl,hb⟩;have n0_:=aK_ (zAV (g:=gb210) (o:=.cells #[.string a0_0,.slice A0_1 l0_1.length c0_1,.int .i64 a0_2,.slice (some ad212) l0_3.length c0_3] 25 (0,0)) (by (with_reducible repeat (first|refine zAG ?_ _|refine zAI ?_|refine zAH ?_ _));exact BK210.out) hb);have n1_:=aK_ (zAV (g:=gb213) (o:=.cells #[.int .i64 ((zAJ l0_3 x6_1).f0),.int .i64 ((zAJ l0_3 x6_1).f1),.int .i64 ((zAJ l0_3 x6_1).f2),.int .i64 ((zAJ l0_3 x6_1).f3),.slice A212_4 ((zAJ l0_3 x6_1).f4).length c212_4,.int .i64 ((zAJ l0_3 x6_1).f5)] 33 (0,0)) (by (with_reducible repeat (first|refine zAG ?_ _|refine zAI ?_|refine zAH ?_ _));exact BK213.out) hb);have n2_:=aK_ (zAN (by repeat (first|(with_reducible first|exact HB.out|apply zAB|apply zAA|apply zAE|refine zAF ?_ GE210.out|refine zAF ?_ GE213.out)|exact HB.out)) hb);clear BK210;clear BK213;clear HB;have BK210:=n0_;have BK213:=n1_;have HB:=n2_;clear n0_ n1_ n2_;(try clear hb);(try clear hb2);(try clear hk);(try clear hi)))
          go_meet
          case rel=>exact ⟨_,(true),(by first|rfl|(simp;done)|(simp [*];done)),H',⟨by have:=HK1.out;first|omega|exact Nat.le_refl _⟩,⟨by (with_reducible repeat (first|refine zAG ?_ _|refine zAI ?_|refine zAH ?_ _));exact BK210.out⟩,⟨by (with_reducible repeat (first|refine zAG ?_ _|refine zAI ?_|refine zAH ?_ _));exact BK213.out⟩,⟨by repeat (first|(with_reducible first|exact HB.out|apply zAB|apply zAA|apply zAE|refine zAF ?_ GE210.out|refine zAF ?_ GE213.out)|exact HB.out)⟩⟩
       case rest =>
        clear HC16
        try clear c1
        try clear c2
        try clear p2
        try clear q2
        try clear hx2
        try clear c3
        try clear c3b0
        try clear c3b1
        try clear c4
        try clear c4b0
        try clear c4b1
        try clear c13
        try clear c13b0
        try clear c14
        try clear c14b0
        try clear c17
        try clear c19
        try clear c21
        try clear p21
        try clear q21
        try clear hx21
        try clear c22
        try clear c22b0
        try clear c24
        try clear c25
        try clear c29
        try clear hcz10_0
        try clear hcz10_1
        try clear hcz10_2
        try clear hcz10_3
        try clear hcz12_0
        try clear hcz12_1
        try clear hcz12_2
        try clear hcz12_3
        try clear hcz17_0
        try clear hcz17_1
        try clear hcz17_2
        try clear hcz17_3
        try clear hcz20_0
        try clear hcz20_1
        try clear hcz20_2
        try clear hcz20_3
        try clear hcz20_4
        try clear hcz20_5
        try clear hcz26_0
        try clear hcz26_1
        try clear hcz26_2
        try clear hcz26_3
        try clear hcz26_4
        try clear hcz26_5
        try clear hcz27_0
        try clear hcz27_1
        try clear hcz27_2
        try clear hcz27_3
        try clear hcz30_0
        try clear hcz30_1
        try clear hcz30_2
        try clear hcz30_3
        try clear hcz30_4
        try clear hcz30_5
        try clear hcz31_0
        try clear hcz31_1
        try clear hcz31_2
        try clear hcz31_3
        try clear hcz6_0
        try clear hcz6_1
        try clear hcz6_2
        try clear hcz6_3
        try clear hcz8_0
        try clear hcz8_1
        try clear hcz8_2
        try clear hcz8_3
        try clear hfz10_0
        try clear hfz10_1
        try clear hfz10_2
        try clear hfz10_3
        try clear hfz12_0
        try clear hfz12_1
        try clear hfz12_2
        try clear hfz12_3
        try clear hfz17_0
        try clear hfz17_1
        try clear hfz17_2
        try clear hfz17_3
        try clear hfz20_0
        try clear hfz20_1
        try clear hfz20_2
        try clear hfz20_3
        try clear hfz20_4
        try clear hfz20_5
        try clear hfz26_0
        try clear hfz26_1
        try clear hfz26_2
        try clear hfz26_3
        try clear hfz26_4
        try clear hfz26_5
        try clear hfz27_0
        try clear hfz27_1
        try clear hfz27_2
        try clear hfz27_3
        try clear hfz30_0
        try clear hfz30_1
        try clear hfz30_2
        try clear hfz30_3
        try clear hfz30_4
        try clear hfz30_5
        try clear hfz31_0
        try clear hfz31_1
        try clear hfz31_2
        try clear hfz31_3
        try clear hfz6_0
        try clear hfz6_1
        try clear hfz6_2
        try clear hfz6_3
        try clear hfz8_0
        try clear hfz8_1
        try clear hfz8_2
        try clear hfz8_3
        try clear hx212_0
        try clear hx212_1
        try clear hx212_2
        try clear hx212_3
        try clear hx212_4
        try clear hx212_5
        try clear p2
        try clear p212
        try clear q212
        obtain ⟨kq,x46_15,rfl,HA,HJ15,BK210,BK213,HB⟩:=hcut
        cases kq with
        |zero=>exact absurd HA.out (by simp [zAY.j1])
        |succ kj15 =>
         have H:=HA.out
         clear HA
         simp only [zAY.j1] at H
         by_cases c33:x46_15=true
         ·subst c33
          have H1:(some (x6_1,50))=some (r1,r2):=by rw [if_pos rfl] at H;exact H
          clear H
          have H:=H1
          clear H1
          simp only [Option.some.injEq,Prod.mk.injEq] at H
          obtain ⟨rfl,rfl⟩:=H
          go_wp2
          go_ret2
          exact ⟨by first|rfl|(simp [zAP,zAQ] <;> rfl)|(simp [*,zAP,zAQ] <;> rfl),by repeat (first|(with_reducible first|exact HB.out|apply zAB|apply zAA|apply zAE|refine zAF ?_ GE210.out|refine zAF ?_ GE213.out)|exact HB.out)⟩
         ·replace c33:=Bool.eq_false_iff.mpr c33
          subst c33
          have H1:(if ((zAJ l0_3 x6_1).f0)=13 then ((zAR.f kj15 ((zAJ l0_3 x6_1).f4)).bind fun t216=>(if t216=true then (zAY.l0 kj15 (wrap64 ((wrap64 (x5_1 - t214))+1)) (wrap64 (x6_1+1)) a0_0 l0_1 a0_2 l0_3) else (some (x6_1,51)))) else (if ((zAJ l0_3 x6_1).f0)=14 then ((zAR.f kj15 ((zAJ l0_3 x6_1).f4)).bind fun t217=>(if t217=true then (zAY.l0 kj15 (wrap64 ((wrap64 (x5_1 - t214))+1)) (wrap64 (x6_1+1)) a0_0 l0_1 a0_2 l0_3) else (some (x6_1,51)))) else (zAY.l0 kj15 (wrap64 ((wrap64 (x5_1 - t214))+1)) (wrap64 (x6_1+1)) a0_0 l0_1 a0_2 l0_3)))=some (r1,r2):=by rw [if_neg (show ¬ (false=true) by decide)] at H;exact H
          clear H
          have H:=H1
          clear H1
          by_cases c34:((zAJ l0_3 x6_1).f0)=13
          ·rw [if_pos c34] at H
           have c34b0:(((zAJ l0_3 x6_1).f0) == 13)=true:=beq_iff_eq.mpr c34
           have c34b1:(((zAJ l0_3 x6_1).f0) != 13)=false:=bne_eq_false_iff_eq.mpr c34
           clear c34
           replace H:=Option.bind_eq_some_iff.mp H
           obtain ⟨t216,A350,H⟩:=H
           replace H:(if t216=true then (zAY.l0 kj15 (wrap64 ((wrap64 (x5_1 - t214))+1)) (wrap64 (x6_1+1)) a0_0 l0_1 a0_2 l0_3) else (some (x6_1,51)))=some (r1,r2):=H
           have A35:=aK_ A350
           clear A350
           by_cases c36:t216=true
           ·subst c36
            have H1:(zAY.l0 kj15 (wrap64 ((wrap64 (x5_1 - t214))+1)) (wrap64 (x6_1+1)) a0_0 l0_1 a0_2 l0_3)=some (r1,r2):=by rw [if_pos rfl] at H;exact H
            clear H
            have H:=H1
            clear H1
            have H':=aK_ H
            clear H
            have hnb37:=NB213_210.out
            have hnc37:=NB210_213.out
            have hcz38_0:wc.cell? ⟨gb213,0,none⟩=some (.int .i64 ((zAJ l0_3 x6_1).f0)):=(zAD BK213.out 0).trans rfl
            have hcz38_1:wc.cell? ⟨gb213,1,none⟩=some (.int .i64 ((zAJ l0_3 x6_1).f1)):=(zAD BK213.out 1).trans rfl
            have hcz38_2:wc.cell? ⟨gb213,2,none⟩=some (.int .i64 ((zAJ l0_3 x6_1).f2)):=(zAD BK213.out 2).trans rfl
            have hcz38_3:wc.cell? ⟨gb213,3,none⟩=some (.int .i64 ((zAJ l0_3 x6_1).f3)):=(zAD BK213.out 3).trans rfl
            have hcz38_4:wc.cell? ⟨gb213,4,none⟩=some (.slice A212_4 ((zAJ l0_3 x6_1).f4).length c212_4):=(zAD BK213.out 4).trans rfl
            have hcz38_5:wc.cell? ⟨gb213,5,none⟩=some (.int .i64 ((zAJ l0_3 x6_1).f5)):=(zAD BK213.out 5).trans rfl
            have hfz38_0:=zAC BK213.out 0
            have hfz38_1:=zAC BK213.out 1
            have hfz38_2:=zAC BK213.out 2
            have hfz38_3:=zAC BK213.out 3
            have hfz38_4:=zAC BK213.out 4
            have hfz38_5:=zAC BK213.out 5
            go_wp2_with (first|(go_at_call 42;(with_reducible refine (zAR.calls kj15 _ _ ((zAJ l0_3 x6_1).f4) true _ ?side1 ?side2 A35.out).mono ?_);(case side1=>repeat (first|exact (Kd.C_below HR212_4.out HB.out)|(with_reducible refine Kd.C_alloc ?_ _)|(with_reducible refine Kd.C_drewN ?_ _)|(with_reducible refine Kd.C_drew ?_)));(case side2=>exact HC212_4.out);rintro e w' ⟨rfl,⟨nd,rfl⟩⟩))
            go_roundg kj15
            case measure=>have:=HK1.out;have:=HJ15.out;omega
            case rel=>exact ⟨(wrap64 ((wrap64 (x5_1 - t214))+1)),(wrap64 (x6_1+1)),(by first|rfl|(simp;done)|(simp [*];done)),(by first|rfl|(simp;done)|(simp [*];done)),H',⟨by have:=HK1.out;have:=HJ15.out;omega⟩,⟨by (with_reducible repeat (first|refine zAG ?_ _|refine zAI ?_|refine zAH ?_ _));exact BK210.out⟩,⟨by repeat (first|(with_reducible first|exact HB.out|apply zAB|apply zAA|apply zAE|refine zAF ?_ GE210.out|refine zAF ?_ GE213.out)|exact HB.out)⟩⟩
           ·replace c36:=Bool.eq_false_iff.mpr c36
            subst c36
            have H1:(some (x6_1,51))=some (r1,r2):=by rw [if_neg (show ¬ (false=true) by decide)] at H;exact H
            clear H
            have H:=H1
            clear H1
            simp only [Option.some.injEq,Prod.mk.injEq] at H
            obtain ⟨rfl,rfl⟩:=H
            have hnb39:=NB213_210.out
            have hnc39:=NB210_213.out
            have hcz40_0:wc.cell? ⟨gb213,0,none⟩=some (.int .i64 ((zAJ l0_3 x6_1).f0)):=(zAD BK213.out 0).trans rfl
            have hcz40_1:wc.cell? ⟨gb213,1,none⟩=some (.int .i64 ((zAJ l0_3 x6_1).f1)):=(zAD BK213.out 1).trans rfl
            have hcz40_2:wc.cell? ⟨gb213,2,none⟩=some (.int .i64 ((zAJ l0_3 x6_1).f2)):=(zAD BK213.out 2).trans rfl
            have hcz40_3:wc.cell? ⟨gb213,3,none⟩=some (.int .i64 ((zAJ l0_3 x6_1).f3)):=(zAD BK213.out 3).trans rfl
            have hcz40_4:wc.cell? ⟨gb213,4,none⟩=some (.slice A212_4 ((zAJ l0_3 x6_1).f4).length c212_4):=(zAD BK213.out 4).trans rfl
            have hcz40_5:wc.cell? ⟨gb213,5,none⟩=some (.int .i64 ((zAJ l0_3 x6_1).f5)):=(zAD BK213.out 5).trans rfl
            have hfz40_0:=zAC BK213.out 0
            have hfz40_1:=zAC BK213.out 1
            have hfz40_2:=zAC BK213.out 2
            have hfz40_3:=zAC BK213.out 3
            have hfz40_4:=zAC BK213.out 4
            have hfz40_5:=zAC BK213.out 5
            go_wp2_with (first|(go_at_call 42;(with_reducible refine (zAR.calls kj15 _ _ ((zAJ l0_3 x6_1).f4) false _ ?side1 ?side2 A35.out).mono ?_);(case side1=>repeat (first|exact (Kd.C_below HR212_4.out HB.out)|(with_reducible refine Kd.C_alloc ?_ _)|(with_reducible refine Kd.C_drewN ?_ _)|(with_reducible refine Kd.C_drew ?_)));(case side2=>exact HC212_4.out);rintro e w' ⟨rfl,⟨nd,rfl⟩⟩))
            go_ret2
            exact ⟨by first|rfl|(simp [zAP,zAQ] <;> rfl)|(simp [*,zAP,zAQ] <;> rfl),by repeat (first|(with_reducible first|exact HB.out|apply zAB|apply zAA|apply zAE|refine zAF ?_ GE210.out|refine zAF ?_ GE213.out)|exact HB.out)⟩
          ·rw [if_neg c34] at H
           have c34b0:(((zAJ l0_3 x6_1).f0) == 13)=false:=beq_eq_false_iff_ne.mpr c34
           have c34b1:(((zAJ l0_3 x6_1).f0) != 13)=true:=bne_iff_ne.mpr c34
           by_cases c41:((zAJ l0_3 x6_1).f0)=14
           ·rw [if_pos c41] at H
            have c41b0:(((zAJ l0_3 x6_1).f0) == 14)=true:=beq_iff_eq.mpr c41
            have c41b1:(((zAJ l0_3 x6_1).f0) != 14)=false:=bne_eq_false_iff_eq.mpr c41
            clear c41
            replace H:=Option.bind_eq_some_iff.mp H
            obtain ⟨t217,A420,H⟩:=H
            replace H:(if t217=true then (zAY.l0 kj15 (wrap64 ((wrap64 (x5_1 - t214))+1)) (wrap64 (x6_1+1)) a0_0 l0_1 a0_2 l0_3) else (some (x6_1,51)))=some (r1,r2):=H
            have A42:=aK_ A420
            clear A420
            by_cases c43:t217=true
            ·subst c43
             have H1:(zAY.l0 kj15 (wrap64 ((wrap64 (x5_1 - t214))+1)) (wrap64 (x6_1+1)) a0_0 l0_1 a0_2 l0_3)=some (r1,r2):=by rw [if_pos rfl] at H;exact H
             clear H
             have H:=H1
             clear H1
             have H':=aK_ H
             clear H
             have hnb44:=NB213_210.out
             have hnc44:=NB210_213.out
             have hcz45_0:wc.cell? ⟨gb213,0,none⟩=some (.int .i64 ((zAJ l0_3 x6_1).f0)):=(zAD BK213.out 0).trans rfl
             have hcz45_1:wc.cell? ⟨gb213,1,none⟩=some (.int .i64 ((zAJ l0_3 x6_1).f1)):=(zAD BK213.out 1).trans rfl
             have hcz45_2:wc.cell? ⟨gb213,2,none⟩=some (.int .i64 ((zAJ l0_3 x6_1).f2)):=(zAD BK213.out 2).trans rfl
             have hcz45_3:wc.cell? ⟨gb213,3,none⟩=some (.int .i64 ((zAJ l0_3 x6_1).f3)):=(zAD BK213.out 3).trans rfl
             have hcz45_4:wc.cell? ⟨gb213,4,none⟩=some (.slice A212_4 ((zAJ l0_3 x6_1).f4).length c212_4):=(zAD BK213.out 4).trans rfl
             have hcz45_5:wc.cell? ⟨gb213,5,none⟩=some (.int .i64 ((zAJ l0_3 x6_1).f5)):=(zAD BK213.out 5).trans rfl
             have hfz45_0:=zAC BK213.out 0
             have hfz45_1:=zAC BK213.out 1
             have hfz45_2:=zAC BK213.out 2
             have hfz45_3:=zAC BK213.out 3
             have hfz45_4:=zAC BK213.out 4
             have hfz45_5:=zAC BK213.out 5
             go_wp2_with (first|(go_at_call 42;(with_reducible refine (zAR.calls kj15 _ _ ((zAJ l0_3 x6_1).f4) true _ ?side1 ?side2 A42.out).mono ?_);(case side1=>repeat (first|exact (Kd.C_below HR212_4.out HB.out)|(with_reducible refine Kd.C_alloc ?_ _)|(with_reducible refine Kd.C_drewN ?_ _)|(with_reducible refine Kd.C_drew ?_)));(case side2=>exact HC212_4.out);rintro e w' ⟨rfl,⟨nd,rfl⟩⟩))
             go_roundg kj15
             case measure=>have:=HK1.out;have:=HJ15.out;omega
             case rel=>exact ⟨(wrap64 ((wrap64 (x5_1 - t214))+1)),(wrap64 (x6_1+1)),(by first|rfl|(simp;done)|(simp [*];done)),(by first|rfl|(simp;done)|(simp [*];done)),H',⟨by have:=HK1.out;have:=HJ15.out;omega⟩,⟨by (with_reducible repeat (first|refine zAG ?_ _|refine zAI ?_|refine zAH ?_ _));exact BK210.out⟩,⟨by repeat (first|(with_reducible first|exact HB.out|apply zAB|apply zAA|apply zAE|refine zAF ?_ GE210.out|refine zAF ?_ GE213.out)|exact HB.out)⟩⟩
            ·replace c43:=Bool.eq_false_iff.mpr c43
             subst c43
             have H1:(some (x6_1,51))=some (r1,r2):=by rw [if_neg (show ¬ (false=true) by decide)] at H;exact H
             clear H
             have H:=H1
             clear H1
             simp only [Option.some.injEq,Prod.mk.injEq] at H
             obtain ⟨rfl,rfl⟩:=H
             have hnb46:=NB213_210.out
             have hnc46:=NB210_213.out
             have hcz47_0:wc.cell? ⟨gb213,0,none⟩=some (.int .i64 ((zAJ l0_3 x6_1).f0)):=(zAD BK213.out 0).trans rfl
             have hcz47_1:wc.cell? ⟨gb213,1,none⟩=some (.int .i64 ((zAJ l0_3 x6_1).f1)):=(zAD BK213.out 1).trans rfl
             have hcz47_2:wc.cell? ⟨gb213,2,none⟩=some (.int .i64 ((zAJ l0_3 x6_1).f2)):=(zAD BK213.out 2).trans rfl
             have hcz47_3:wc.cell? ⟨gb213,3,none⟩=some (.int .i64 ((zAJ l0_3 x6_1).f3)):=(zAD BK213.out 3).trans rfl
             have hcz47_4:wc.cell? ⟨gb213,4,none⟩=some (.slice A212_4 ((zAJ l0_3 x6_1).f4).length c212_4):=(zAD BK213.out 4).trans rfl
             have hcz47_5:wc.cell? ⟨gb213,5,none⟩=some (.int .i64 ((zAJ l0_3 x6_1).f5)):=(zAD BK213.out 5).trans rfl
             have hfz47_0:=zAC BK213.out 0
             have hfz47_1:=zAC BK213.out 1
             have hfz47_2:=zAC BK213.out 2
             have hfz47_3:=zAC BK213.out 3
             have hfz47_4:=zAC BK213.out 4
             have hfz47_5:=zAC BK213.out 5
             go_wp2_with (first|(go_at_call 42;(with_reducible refine (zAR.calls kj15 _ _ ((zAJ l0_3 x6_1).f4) false _ ?side1 ?side2 A42.out).mono ?_);(case side1=>repeat (first|exact (Kd.C_below HR212_4.out HB.out)|(with_reducible refine Kd.C_alloc ?_ _)|(with_reducible refine Kd.C_drewN ?_ _)|(with_reducible refine Kd.C_drew ?_)));(case side2=>exact HC212_4.out);rintro e w' ⟨rfl,⟨nd,rfl⟩⟩))
             go_ret2
             exact ⟨by first|rfl|(simp [zAP,zAQ] <;> rfl)|(simp [*,zAP,zAQ] <;> rfl),by repeat (first|(with_reducible first|exact HB.out|apply zAB|apply zAA|apply zAE|refine zAF ?_ GE210.out|refine zAF ?_ GE213.out)|exact HB.out)⟩
           ·rw [if_neg c41] at H
            have c41b0:(((zAJ l0_3 x6_1).f0) == 14)=false:=beq_eq_false_iff_ne.mpr c41
            have c41b1:(((zAJ l0_3 x6_1).f0) != 14)=true:=bne_iff_ne.mpr c41
            have H':=aK_ H
            clear H
            have hnb48:=NB213_210.out
            have hnc48:=NB210_213.out
            have hcz49_0:wc.cell? ⟨gb213,0,none⟩=some (.int .i64 ((zAJ l0_3 x6_1).f0)):=(zAD BK213.out 0).trans rfl
            have hcz49_1:wc.cell? ⟨gb213,1,none⟩=some (.int .i64 ((zAJ l0_3 x6_1).f1)):=(zAD BK213.out 1).trans rfl
            have hcz49_2:wc.cell? ⟨gb213,2,none⟩=some (.int .i64 ((zAJ l0_3 x6_1).f2)):=(zAD BK213.out 2).trans rfl
            have hcz49_3:wc.cell? ⟨gb213,3,none⟩=some (.int .i64 ((zAJ l0_3 x6_1).f3)):=(zAD BK213.out 3).trans rfl
            have hcz49_4:wc.cell? ⟨gb213,4,none⟩=some (.slice A212_4 ((zAJ l0_3 x6_1).f4).length c212_4):=(zAD BK213.out 4).trans rfl
            have hcz49_5:wc.cell? ⟨gb213,5,none⟩=some (.int .i64 ((zAJ l0_3 x6_1).f5)):=(zAD BK213.out 5).trans rfl
            have hfz49_0:=zAC BK213.out 0
            have hfz49_1:=zAC BK213.out 1
            have hfz49_2:=zAC BK213.out 2
            have hfz49_3:=zAC BK213.out 3
            have hfz49_4:=zAC BK213.out 4
            have hfz49_5:=zAC BK213.out 5
            go_wp2
            go_roundg kj15
            case measure=>have:=HK1.out;have:=HJ15.out;omega
            case rel=>exact ⟨(wrap64 ((wrap64 (x5_1 - t214))+1)),(wrap64 (x6_1+1)),(by first|rfl|(simp;done)|(simp [*];done)),(by first|rfl|(simp;done)|(simp [*];done)),H',⟨by have:=HK1.out;have:=HJ15.out;omega⟩,⟨by (with_reducible repeat (first|refine zAG ?_ _|refine zAI ?_|refine zAH ?_ _));exact BK210.out⟩,⟨by repeat (first|(with_reducible first|exact HB.out|apply zAB|apply zAA|apply zAE|refine zAF ?_ GE210.out|refine zAF ?_ GE213.out)|exact HB.out)⟩⟩
      ·rw [if_neg c14] at H
       exact absurd H (by simp)
     ·rw [if_neg c13] at H
      have c13b0:decide (x6_1<(l0_3.length:Int))=false:=decide_eq_false c13
      clear c13
      by_cases c50:x5_1=1
      ·rw [if_pos c50] at H
       have c50b0:(x5_1 == 1)=true:=beq_iff_eq.mpr c50
       have c50b1:(x5_1 != 1)=false:=bne_eq_false_iff_eq.mpr c50
       clear c50
       simp only [Option.some.injEq,Prod.mk.injEq] at H
       obtain ⟨rfl,rfl⟩:=H
       have hcz51_0:wr.cell? ⟨gb210,0,none⟩=some (.string a0_0):=(zAD BK210.out 0).trans rfl
       have hcz51_1:wr.cell? ⟨gb210,1,none⟩=some (.slice A0_1 l0_1.length c0_1):=(zAD BK210.out 1).trans rfl
       have hcz51_2:wr.cell? ⟨gb210,2,none⟩=some (.int .i64 a0_2):=(zAD BK210.out 2).trans rfl
       have hcz51_3:wr.cell? ⟨gb210,3,none⟩=some (.slice A0_3 l0_3.length c0_3):=(zAD BK210.out 3).trans rfl
       have hfz51_0:=zAC BK210.out 0
       have hfz51_1:=zAC BK210.out 1
       have hfz51_2:=zAC BK210.out 2
       have hfz51_3:=zAC BK210.out 3
       go_wp2
       go_ret2
       exact ⟨by first|rfl|(simp [zAP,zAQ] <;> rfl)|(simp [*,zAP,zAQ] <;> rfl),by repeat (first|(with_reducible first|exact HB.out|apply zAB|apply zAA|apply zAE|refine zAF ?_ GE210.out)|exact HB.out)⟩
      ·rw [if_neg c50] at H
       have c50b0:(x5_1 == 1)=false:=beq_eq_false_iff_ne.mpr c50
       have c50b1:(x5_1 != 1)=true:=bne_iff_ne.mpr c50
       simp only [Option.some.injEq,Prod.mk.injEq] at H
       obtain ⟨rfl,rfl⟩:=H
       have hcz52_0:wr.cell? ⟨gb210,0,none⟩=some (.string a0_0):=(zAD BK210.out 0).trans rfl
       have hcz52_1:wr.cell? ⟨gb210,1,none⟩=some (.slice A0_1 l0_1.length c0_1):=(zAD BK210.out 1).trans rfl
       have hcz52_2:wr.cell? ⟨gb210,2,none⟩=some (.int .i64 a0_2):=(zAD BK210.out 2).trans rfl
       have hcz52_3:wr.cell? ⟨gb210,3,none⟩=some (.slice A0_3 l0_3.length c0_3):=(zAD BK210.out 3).trans rfl
       have hfz52_0:=zAC BK210.out 0
       have hfz52_1:=zAC BK210.out 1
       have hfz52_2:=zAC BK210.out 2
       have hfz52_3:=zAC BK210.out 3
       go_wp2
       go_ret2
       exact ⟨by first|rfl|(simp [zAP,zAQ] <;> rfl)|(simp [*,zAP,zAQ] <;> rfl),by repeat (first|(with_reducible first|exact HB.out|apply zAB|apply zAA|apply zAE|refine zAF ?_ GE210.out)|exact HB.out)⟩
 ·rw [if_neg c3] at H
  have c3b0:(t211 == 0)=false:=beq_eq_false_iff_ne.mpr c3
  have c3b1:(t211 != 0)=true:=bne_iff_ne.mpr c3
  simp only [Option.some.injEq,Prod.mk.injEq] at H
  obtain ⟨rfl,rfl⟩:=H
  go_enter Tryd.func17,Tryd.ntmps17
  go_wp2_with (first|((with_reducible refine zAf (N:=1) rfl ?_);(try (refine zAj (by rfl) ?_;dsimp only));refine zAd ?hg (N:=1) ?hd (cs:=#[.string a0_0,.slice A0_1 l0_1.length c0_1,.int .i64 a0_2,.slice A0_3 l0_3.length c0_3]) (t:=25) ?hr ?_;(case hd=>rfl);(case hg=>rfl);(case hr=>first|(go_simp;done)|(go_simp;rfl));intro gb210 hg w53 hbox hb;have n0_:=aK_ (zAN (by repeat (first|(with_reducible first|exact HB.out|apply zAB|apply zAA|apply zAE)|exact HB.out)) hb);have n1_:=aK_ (hbox);have n2_:=aK_ ((by rw [hg];exact (zAK (by repeat (first|(with_reducible first|exact HB.out|apply zAB|apply zAA|apply zAE)|exact HB.out))):w.heap.size≤gb210));have n3_:=aK_ ((by rw [hg];exact (zAK (by repeat (first|(with_reducible first|exact HB.out|apply zAB|apply zAA|apply zAE)|exact HB.out))):w.heap.size≤gb210));clear HB;have HB:=n0_;have BK210:=n1_;have GW210:=n2_;have GE210:=n3_;clear n0_ n1_ n2_ n3_;clear hb hbox hg;have hcz54_0:w53.cell? ⟨gb210,0,none⟩=some (.string a0_0):=(zAD BK210.out 0).trans rfl;have hcz54_1:w53.cell? ⟨gb210,1,none⟩=some (.slice A0_1 l0_1.length c0_1):=(zAD BK210.out 1).trans rfl;have hcz54_2:w53.cell? ⟨gb210,2,none⟩=some (.int .i64 a0_2):=(zAD BK210.out 2).trans rfl;have hcz54_3:w53.cell? ⟨gb210,3,none⟩=some (.slice A0_3 l0_3.length c0_3):=(zAD BK210.out 3).trans rfl;have hfz54_0:=zAC BK210.out 0;have hfz54_1:=zAC BK210.out 1;have hfz54_2:=zAC BK210.out 2;have hfz54_3:=zAC BK210.out 3)|((with_reducible refine gate_callee (f:=40) rfl ?_);refine goesL_ (some 10) rfl rfl Tryd.func40 (by kernel_rfl) rfl #[.agg #[.string a0_0,.slice A0_1 l0_1.length c0_1,.int .i64 a0_2,.slice A0_3 l0_3.length c0_3]] rfl (by (try simp only [List.map_toArray,List.map_cons,List.map_nil]);first|done|rfl|(simp only [List.length_drop,List.length_take];rfl)) ?_;(with_reducible refine (zAT.calls k a0_0 _ _ l0_1 a0_2 _ _ l0_3 t211 _ ?side1 ?side2 ?side3 ?side4 A2.out).mono ?_);(case side1=>repeat (first|exact (Kd.C_below HR0_1.out HB.out)|(with_reducible refine Kd.C_alloc ?_ _)|(with_reducible refine Kd.C_drewN ?_ _)|(with_reducible refine Kd.C_drew ?_)));(case side2=>exact HC0_1.out);(case side3=>repeat (first|exact (Kd.C_below HR0_3.out HB.out)|(with_reducible refine Kd.C_alloc ?_ _)|(with_reducible refine Kd.C_drewN ?_ _)|(with_reducible refine Kd.C_drew ?_)));(case side4=>exact HC0_3.out);rintro e w55 ⟨rfl,hb⟩;refine ⟨_,rfl,?_⟩;have n0_:=aK_ (zAV (g:=gb210) (o:=.cells #[.string a0_0,.slice A0_1 l0_1.length c0_1,.int .i64 a0_2,.slice A0_3 l0_3.length c0_3] 25 (0,0)) (by (with_reducible repeat (first|refine zAG ?_ _|refine zAI ?_|refine zAH ?_ _));exact BK210.out) hb);have n1_:=aK_ (zAN (by repeat (first|(with_reducible first|exact HB.out|apply zAB|apply zAA|apply zAE|refine zAF ?_ GE210.out)|exact HB.out)) hb);clear BK210;clear HB;have BK210:=n0_;have HB:=n1_;clear n0_ n1_;(try clear hb);(try clear hb2);(try clear hk);(try clear hi)))
  go_ret2
  exact ⟨by first|rfl|(simp [zAP,zAQ] <;> rfl)|(simp [*,zAP,zAQ] <;> rfl),by repeat (first|(with_reducible first|exact HB.out|apply zAB|apply zAA|apply zAE|refine zAF ?_ GE210.out)|exact HB.out)⟩
end Go.Proofs.YthbnigjckjkmnaaDoor.S
