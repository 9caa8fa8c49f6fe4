/- What the proof needs, part 15 of 18. For every input the law TreeSames returns true, and each argument reads behind the call as it read before; the listed variable is tied to the program's text. -/
import Derived.Test.YthbnigjckjkmnaaDoorBTreeSames5
import Derived.Test.YthbnigjckjkmnaaDoorBTreeSames14
import Derived.Test.YthbnigjckjkmnaaDoorBTreeSames8
import Derived.Test.YthbnigjckjkmnaaDoorBTreeSames6
import Derived.Test.YthbnigjckjkmnaaDoorBTreeSames10
import Derived.Test.YthbnigjckjkmnaaDoorBTreeSames7
set_option linter.unusedVariables false
set_option linter.unusedSimpArgs false
namespace Go.Proofs.YthbnigjckjkmnaaDoor.S
open Go.RowKit Go.Proofs.YthbnigjckjkmnaaDoorW.PrintWords Go.Proofs.YthbnigjckjkmnaaDoorW.PrintLast Go.Proofs.YthbnigjckjkmnaaDoorW.PrintMore
attribute [local go_sem] max2_int min2_int max_two min_two max_three min_three max_four min_four
def zAW.l0:Nat→Int→Int→ByteArray→List (S47)→Int→List (S33)→ByteArray→List (S47)→Int→List (S33)→ByteArray→List (S47)→Int→List (S33)→Option (Bool)
 |0,_,_,_,_,_,_,_,_,_,_,_,_,_,_=>none
 |k+1,x2,x8,x236000,x236001,x236002,x236003,x237000,x237001,x237002,x237003,x239000,x239001,x239002,x239003=>if x8<(x239003.length:Int) then (if 0≤x8 then (zAW.l0 k x2 (wrap64 (x8+1)) x236000 x236001 x236002 x236003 x237000 x237001 x237002 x237003 x239000 x239001 x239002 (x239003.set (x8:Int).toNat (⟨(zAJ x239003 x8).f0,(zAJ x239003 x8).f1,(zAJ x239003 x8).f2,(zAJ x239003 x8).f3,(zAJ x239003 x8).f4,x2⟩:S33))) else (none)) else ((tree_Same.f k x236000 x236001 x236002 x236003 x237000 x237001 x237002 x237003).bind fun t246=>((zAL.f k x236000 x236001 x236002 x236003 x237000 x237001 x237002 x237003).bind fun t247=>(if (t246 == t247)=true then ((tree_Same.f k x237000 x237001 x237002 x237003 x236000 x236001 x236002 x236003).bind fun t248=>((tree_Same.f k x236000 x236001 x236002 x236003 x237000 x237001 x237002 x237003).bind fun t249=>(if (t248 == t249)=true then ((tree_Same.f k x236000 x236001 x236002 x236003 x239000 x239001 x239002 x239003).bind fun t250=>(if t250=true then ((tree_Same.f k x239000 x239001 x239002 x239003 x236000 x236001 x236002 x236003).bind fun t251=>(some t251)) else (some false))) else (some false)))) else (some false))))
def zAW.f (k:Nat) (a0_0:ByteArray) (l0_1:List (S47)) (a0_2:Int) (l0_3:List (S33)) (a1_0:ByteArray) (l1_1:List (S47)) (a1_2:Int) (l1_3:List (S33)) (a2:Int):Option (Bool):=(octroilaw05_awake.f k).bind fun t237=>(if t237=true then (if (l0_3.length:Int) > 4096 then (some true) else ((some (([]:List (S33)):List (S33))).bind fun y239=>(if y239.length+l0_3.length<2199023255552 then (zAW.l0 k a2 0 a0_0 l0_1 a0_2 l0_3 a1_0 l1_1 a1_2 l1_3 a0_0 l0_1 a0_2 (y239 ++ l0_3)) else (none)))) else (some false))
theorem zAW.mono_l:∀ k,(∀ y0 y1 y2 y3 y4 y5 y6 y7 y8 y9 y10 y11 y12 y13,LeO (zAW.l0 k y0 y1 y2 y3 y4 y5 y6 y7 y8 y9 y10 y11 y12 y13) (zAW.l0 (k+1) y0 y1 y2 y3 y4 y5 y6 y7 y8 y9 y10 y11 y12 y13))
 |0=>fun _ _ _ _ _ _ _ _ _ _ _ _ _ _ r h=>by simp [zAW.l0] at h
 |k+1=>by
  have ih0:=zAW.mono_l k
  ·intro y0 y1 y2 y3 y4 y5 y6 y7 y8 y9 y10 y11 y12 y13
   unfold zAW.l0
   repeat' first
   |(with_reducible exact ih0 _ _ _ _ _ _ _ _ _ _ _ _ _ _)
   |(with_reducible exact octroilaw05_awake.mono _)
   |(with_reducible exact zAL.mono _ _ _ _ _ _ _ _ _)
   |(with_reducible exact tree_Same.mono _ _ _ _ _ _ _ _ _)
   |(with_reducible exact LeO.refl _)
   |(with_reducible exact LeO.none _)
   |(with_reducible refine LeO.ite ?_ ?_)
   |(with_reducible refine LeO.bind ?_ (fun _=>?_))
   |exact ih0 _ _ _ _ _ _ _ _ _ _ _ _ _ _
   |exact octroilaw05_awake.mono _
   |exact zAL.mono _ _ _ _ _ _ _ _ _
   |exact tree_Same.mono _ _ _ _ _ _ _ _ _
   |exact LeO.none _
   |refine LeO.ite ?_ ?_
   |refine LeO.bind ?_ (fun _=>?_)
theorem zAW.mono:∀ a0 a1 a2 a3 a4 a5 a6 a7 a8 k,LeO (zAW.f k a0 a1 a2 a3 a4 a5 a6 a7 a8) (zAW.f (k+1) a0 a1 a2 a3 a4 a5 a6 a7 a8):=by
 intro a0 a1 a2 a3 a4 a5 a6 a7 a8 k
 have ih0:=zAW.mono_l k
 unfold zAW.f
 repeat' first
   |(with_reducible exact ih0 _ _ _ _ _ _ _ _ _ _ _ _ _ _)
   |(with_reducible exact octroilaw05_awake.mono _)
   |(with_reducible exact zAL.mono _ _ _ _ _ _ _ _ _)
   |(with_reducible exact tree_Same.mono _ _ _ _ _ _ _ _ _)
   |(with_reducible exact LeO.refl _)
   |(with_reducible exact LeO.none _)
   |(with_reducible refine LeO.ite ?_ ?_)
   |(with_reducible refine LeO.bind ?_ (fun _=>?_))
   |exact ih0 _ _ _ _ _ _ _ _ _ _ _ _ _ _
   |exact octroilaw05_awake.mono _
   |exact zAL.mono _ _ _ _ _ _ _ _ _
   |exact tree_Same.mono _ _ _ _ _ _ _ _ _
   |exact LeO.none _
   |refine LeO.ite ?_ ?_
   |refine LeO.bind ?_ (fun _=>?_)
def zAW.T11:Bool × List (List Nat × List Nat):=(true,[([],[]),([],[]),([0,1],[0,1]),([],[]),([],[]),([3,4,2],[3,4]),([2,5],[2,5]),([6,5],[6]),([7],[7]),([7],[7]),([8,9,7,7],[7,8,9]),([7],[7]),([7],[7]),([11,12,10,7],[7,11,12]),([10,13,7],[7,10,13]),([7,14],[7,14]),([15,13],[15]),([16],[16]),([16],[16]),([17,18,16,16],[16,17,18]),([16,19],[16,19]),([20,19],[20]),([21],[21]),([21],[21]),([22,23,21,21],[21,22,23]),([21,24],[21,24]),([25,24,0,1,2,3,4,5,6,7,8,9,10,11,12,13,14,15,16,17,18,19,20,21,22,23,24,25],[25])])
def zAW.B11:List Nat:=[0,0,3,0,0,31,63,127,255,255,1023,255,255,8191,16383,32767,65535,131071,131071,524287,1048575,2097151,4194303,4194303,16777215,33554431,67108863]
theorem zAW.tab11:rtab .any (opsOf Tryd.f4 11)=zAW.T11:=by kernel_rfl
theorem zAW.bits11:waitsOk zAW.T11.2 zAW.B11=true:=by kernel_rfl
set_option maxHeartbeats 8000000 in
set_option maxRecDepth 100000 in
theorem zAW.calls (k:Nat) (a0_0:ByteArray) (A0_1:Option Addr) (c0_1:Nat) (l0_1:List (S47)) (a0_2:Int) (P0_3_:Nat→Prop) (A0_3:Option Addr) (c0_3:Nat) (l0_3:List (S33)) (a1_0:ByteArray) (A1_1:Option Addr) (c1_1:Nat) (l1_1:List (S47)) (a1_2:Int) (A1_3:Option Addr) (c1_3:Nat) (l1_3:List (S33)) (a2:Int) (r:Bool) (w:World) (hG:GW w) (hr0_1:Kd.C k47 w A0_1 l0_1.length l0_1) (hc0_1:l0_1.length≤c0_1) (hs0_3:Kd.V k33 33 w w.heap.size (fun k_=>P0_3_ k_) (.slice A0_3 l0_3.length c0_3) l0_3) (hr1_1:Kd.C k47 w A1_1 l1_1.length l1_1) (hc1_1:l1_1.length≤c1_1) (hr1_3:Kd.C k33 w A1_3 l1_3.length l1_3) (hc1_3:l1_3.length≤c1_3) (h:zAW.f k a0_0 l0_1 a0_2 l0_3 a1_0 l1_1 a1_2 l1_3 a2=some r) :
  Calls Tryd.prog 4 #[.agg #[.string a0_0,.slice A0_1 l0_1.length c0_1,.int .i64 a0_2,.slice A0_3 l0_3.length c0_3],.agg #[.string a1_0,.slice A1_1 l1_1.length c1_1,.int .i64 a1_2,.slice A1_3 l1_3.length c1_3],.int .i64 a2] w fun e w'=>e = .returned (.bool r)∧Below w.heap.size w w':=by
 have hu25:=Tryd.underlying25
 have HR0_1:=aK_ hr0_1
 have HC0_1:=aK_ hc0_1
 clear hr0_1 hc0_1
 have HO0_3:=aK_ (show Kd.V k33 33 w w.heap.size (fun k_=>(P0_3_ k_∨w.heap.size≤k_)) (.slice A0_3 l0_3.length c0_3) l0_3 from Kd.V_mono hs0_3 (fun k_ hk=>.inl hk))
 have HR1_1:=aK_ hr1_1
 have HC1_1:=aK_ hc1_1
 clear hr1_1 hc1_1
 have HR1_3:=aK_ hr1_3
 have HC1_3:=aK_ hc1_3
 clear hr1_3 hc1_3
 have HB:=aK_ (Below.refl w.heap.size w)
 have H:((octroilaw05_awake.f k).bind fun t237=>(if t237=true then (if (l0_3.length:Int) > 4096 then (some true) else ((some (([]:List (S33)):List (S33))).bind fun y239=>(if y239.length+l0_3.length<2199023255552 then (zAW.l0 k a2 0 a0_0 l0_1 a0_2 l0_3 a1_0 l1_1 a1_2 l1_3 a0_0 l0_1 a0_2 (y239 ++ l0_3)) else (none)))) else (some false)))=some r:=h
 clear h
 replace H:=Option.bind_eq_some_iff.mp H
 obtain ⟨t237,A40,H⟩:=H
 replace H:(if t237=true then (if (l0_3.length:Int) > 4096 then (some true) else ((some (([]:List (S33)):List (S33))).bind fun y239=>(if y239.length+l0_3.length<2199023255552 then (zAW.l0 k a2 0 a0_0 l0_1 a0_2 l0_3 a1_0 l1_1 a1_2 l1_3 a0_0 l0_1 a0_2 (y239 ++ l0_3)) else (none)))) else (some false))=some r:=H
 have A4:=aK_ A40
 clear A40
 by_cases c5:t237=true
 ·subst c5
  have H1:(if (l0_3.length:Int) > 4096 then (some true) else ((some (([]:List (S33)):List (S33))).bind fun y239=>(if y239.length+l0_3.length<2199023255552 then (zAW.l0 k a2 0 a0_0 l0_1 a0_2 l0_3 a1_0 l1_1 a1_2 l1_3 a0_0 l0_1 a0_2 (y239 ++ l0_3)) else (none))))=some r:=by rw [if_pos rfl] at H;exact H
  clear H
  have H:=H1
  clear H1
  by_cases c6:(l0_3.length:Int) > 4096
  ·rw [if_pos c6] at H
   have c6b0:decide (4096<(l0_3.length:Int))=true:=decide_eq_true c6
   have c6b1:decide (4096<l0_3.length)=true:=decide_eq_true (by omega)
   clear c6
   obtain rfl:=Option.some.inj H
   go_enter Tryd.func4,Tryd.ntmps4
   go_wp2_with (first|((with_reducible refine zAf (N:=3) rfl ?_);refine zAd ?hg (N:=3) ?hd (cs:=#[.string a0_0,.slice A0_1 l0_1.length c0_1,.int .i64 a0_2,.slice A0_3 l0_3.length c0_3]) (t:=25) ?hr ?_;(case hd=>rfl);(case hg=>rfl);(case hr=>first|(go_simp;done)|(go_simp;rfl));intro gb235 hg w7 hbox hb;have n0_:=aK_ (Kd.V_below (Kd.V_elderB (by (with_reducible repeat (first|apply Kd.V_alloc|apply Kd.V_drewN|apply Kd.V_drew));exact HO0_3.out) gb235 (Nat.le_of_eq hg.symm)) hb);have n1_:=aK_ (zAN (by repeat (first|(with_reducible first|exact HB.out|apply zAB|apply zAA|apply zAE)|exact HB.out)) hb);have n2_:=aK_ (hbox);have n3_:=aK_ ((by rw [hg];exact (zAK (by repeat (first|(with_reducible first|exact HB.out|apply zAB|apply zAA|apply zAE)|exact HB.out))):w.heap.size≤gb235));have n4_:=aK_ ((by rw [hg];exact (zAK (by repeat (first|(with_reducible first|exact HB.out|apply zAB|apply zAA|apply zAE)|exact HB.out))):w.heap.size≤gb235));clear HO0_3;clear HB;have HO0_3:=n0_;have HB:=n1_;have BK235:=n2_;have GW235:=n3_;have GE235:=n4_;clear n0_ n1_ n2_ n3_ n4_;clear hb hbox hg)|((with_reducible refine zAf (N:=4) rfl ?_);refine zAd ?hg (N:=4) ?hd (cs:=#[.string a1_0,.slice A1_1 l1_1.length c1_1,.int .i64 a1_2,.slice A1_3 l1_3.length c1_3]) (t:=25) ?hr ?_;(case hd=>rfl);(case hg=>rfl);(case hr=>first|(go_simp;done)|(go_simp;rfl));intro gb236 hg w8 hbox hb;have n0_:=aK_ (Kd.V_below (Kd.V_elderB (by (with_reducible repeat (first|apply Kd.V_alloc|apply Kd.V_drewN|apply Kd.V_drew));exact HO0_3.out) gb236 (Nat.le_of_eq hg.symm)) hb);have n1_:=aK_ (zAV (g:=gb235) (o:=.cells #[.string a0_0,.slice A0_1 l0_1.length c0_1,.int .i64 a0_2,.slice A0_3 l0_3.length c0_3] 25 (0,0)) (by (with_reducible repeat (first|refine zAG ?_ _|refine zAI ?_|refine zAH ?_ _));exact BK235.out) hb);have n2_:=aK_ (zAN (by repeat (first|(with_reducible first|exact HB.out|apply zAB|apply zAA|apply zAE|refine zAF ?_ GE235.out)|exact HB.out)) hb);have n3_:=aK_ (hbox);have n4_:=aK_ ((by rw [hg];exact (zAK (by repeat (first|(with_reducible first|exact HB.out|apply zAB|apply zAA|apply zAE|refine zAF ?_ GE235.out)|exact HB.out))):w.heap.size≤gb236));have n5_:=aK_ ((by rw [hg];exact (zAK (by repeat (first|(with_reducible first|exact HB.out|apply zAB|apply zAA|apply zAE|refine zAF ?_ GE235.out)|exact HB.out))):w.heap.size≤gb236));have n6_:=aK_ ((by rw [hg];exact Nat.ne_of_lt (blk_lt (g:=gb235) (o:=.cells #[.string a0_0,.slice A0_1 l0_1.length c0_1,.int .i64 a0_2,.slice A0_3 l0_3.length c0_3] 25 (0,0)) (by (with_reducible repeat (first|refine zAG ?_ _|refine zAI ?_|refine zAH ?_ _));exact BK235.out)):gb235≠gb236));have n7_:=aK_ ((by rw [hg];exact Nat.ne_of_gt (blk_lt (g:=gb235) (o:=.cells #[.string a0_0,.slice A0_1 l0_1.length c0_1,.int .i64 a0_2,.slice A0_3 l0_3.length c0_3] 25 (0,0)) (by (with_reducible repeat (first|refine zAG ?_ _|refine zAI ?_|refine zAH ?_ _));exact BK235.out)):gb236≠gb235));clear HO0_3;clear BK235;clear HB;have HO0_3:=n0_;have BK235:=n1_;have HB:=n2_;have BK236:=n3_;have GW236:=n4_;have GE236:=n5_;have NB235_236:=n6_;have NB236_235:=n7_;clear n0_ n1_ n2_ n3_ n4_ n5_ n6_ n7_;clear hb hbox hg)|((with_reducible refine gate_callee (f:=15) rfl ?_);refine goesL_ (some 9) rfl rfl Tryd.func15 (by kernel_rfl) rfl #[] rfl (by (try simp only [List.map_toArray,List.map_cons,List.map_nil]);first|done|rfl|(simp only [List.length_drop,List.length_take];rfl)) ?_;(with_reducible refine (octroilaw05_awake.calls k  true _ ?side1 A4.out).mono ?_);(case side1=>(first|(with_reducible exact hG)|((repeat (with_reducible first|exact hG|apply GW.drewN|apply GW.drew|apply GW.alloc));done)|exact GW.below hG (by repeat (first|(with_reducible first|exact HB.out|apply zAB|apply zAA|apply zAE|refine zAF ?_ GE235.out|refine zAF ?_ GE236.out)|exact HB.out))));rintro e w9 ⟨rfl,hb⟩;refine ⟨_,rfl,?_⟩;have n0_:=aK_ (Kd.V_below (by (with_reducible repeat (first|apply Kd.V_alloc|apply Kd.V_drewN|apply Kd.V_drew));exact HO0_3.out) hb);have n1_:=aK_ (zAV (g:=gb235) (o:=.cells #[.string a0_0,.slice A0_1 l0_1.length c0_1,.int .i64 a0_2,.slice A0_3 l0_3.length c0_3] 25 (0,0)) (by (with_reducible repeat (first|refine zAG ?_ _|refine zAI ?_|refine zAH ?_ _));exact BK235.out) hb);have n2_:=aK_ (zAV (g:=gb236) (o:=.cells #[.string a1_0,.slice A1_1 l1_1.length c1_1,.int .i64 a1_2,.slice A1_3 l1_3.length c1_3] 25 (0,0)) (by (with_reducible repeat (first|refine zAG ?_ _|refine zAI ?_|refine zAH ?_ _));exact BK236.out) hb);have n3_:=aK_ (zAN (by repeat (first|(with_reducible first|exact HB.out|apply zAB|apply zAA|apply zAE|refine zAF ?_ GE235.out|refine zAF ?_ GE236.out)|exact HB.out)) hb);clear HO0_3;clear BK235;clear BK236;clear HB;have HO0_3:=n0_;have BK235:=n1_;have BK236:=n2_;have HB:=n3_;clear n0_ n1_ n2_ n3_;(try clear hb);(try clear hb2);(try clear hk);(try clear hi);have hnb10:=NB235_236.out;have hnc10:=NB236_235.out;have hcz11_0:w9.cell? ⟨gb235,0,none⟩=some (.string a0_0):=(zAD BK235.out 0).trans rfl;have hcz11_1:w9.cell? ⟨gb235,1,none⟩=some (.slice A0_1 l0_1.length c0_1):=(zAD BK235.out 1).trans rfl;have hcz11_2:w9.cell? ⟨gb235,2,none⟩=some (.int .i64 a0_2):=(zAD BK235.out 2).trans rfl;have hcz11_3:w9.cell? ⟨gb235,3,none⟩=some (.slice A0_3 l0_3.length c0_3):=(zAD BK235.out 3).trans rfl;have hfz11_0:=zAC BK235.out 0;have hfz11_1:=zAC BK235.out 1;have hfz11_2:=zAC BK235.out 2;have hfz11_3:=zAC BK235.out 3))
   go_ret
   exact ⟨by first|rfl|(simp [zAP,zAQ] <;> rfl)|(simp [*,zAP,zAQ] <;> rfl),by repeat (first|(with_reducible first|exact HB.out|apply zAB|apply zAA|apply zAE|refine zAF ?_ GE235.out|refine zAF ?_ GE236.out)|exact HB.out)⟩
  ·rw [if_neg c6] at H
   have c6b0:decide (4096<(l0_3.length:Int))=false:=decide_eq_false c6
   have c6b1:decide (4096<l0_3.length)=false:=decide_eq_false (by omega)
   clear c6
   obtain ⟨y239,hy239⟩:∃ y_:List (S33),y_=(([]:List (S33))):=⟨_,rfl⟩
   replace H:(if y239.length+l0_3.length<2199023255552 then (zAW.l0 k a2 0 a0_0 l0_1 a0_2 l0_3 a1_0 l1_1 a1_2 l1_3 a0_0 l0_1 a0_2 (y239 ++ l0_3)) else (none))=some r:=by first|(rw [hy239];with_reducible exact H)|(have H2_:=(Option.bind_some _ _).symm.trans H;rw [hy239];with_reducible exact H2_)|(have H2_:=(Option.bind_some _ _).symm.trans H;with_reducible exact H2_)|with_reducible exact H|(rw [hy239];exact H)|exact H
   have Ny239:=aK_ hy239
   clear hy239
   by_cases c12:y239.length+l0_3.length<2199023255552
   ·rw [if_pos c12] at H
    have LMc12:=aK_ c12
    clear c12
    obtain ⟨y242,hy242⟩:∃ y_:List (S33),y_=(y239 ++ l0_3):=⟨_,rfl⟩
    replace H:(zAW.l0 k a2 0 a0_0 l0_1 a0_2 l0_3 a1_0 l1_1 a1_2 l1_3 a0_0 l0_1 a0_2 y242)=some r:=by first|(rw [hy242];with_reducible exact H)|(have H2_:=(Option.bind_some _ _).symm.trans H;rw [hy242];with_reducible exact H2_)|(have H2_:=(Option.bind_some _ _).symm.trans H;with_reducible exact H2_)|with_reducible exact H|(rw [hy242];exact H)|exact H
    have Ny242:=aK_ hy242
    clear hy242
    have H':=aK_ H
    clear H
    go_enter Tryd.func4,Tryd.ntmps4
    go_wp2_with (first|((with_reducible refine zAf (N:=3) rfl ?_);refine zAd ?hg (N:=3) ?hd (cs:=#[.string a0_0,.slice A0_1 l0_1.length c0_1,.int .i64 a0_2,.slice A0_3 l0_3.length c0_3]) (t:=25) ?hr ?_;(case hd=>rfl);(case hg=>rfl);(case hr=>first|(go_simp;done)|(go_simp;rfl));intro gb235 hg w13 hbox hb;have n0_:=aK_ (Kd.V_below (Kd.V_elderB (by (with_reducible repeat (first|apply Kd.V_alloc|apply Kd.V_drewN|apply Kd.V_drew));exact HO0_3.out) gb235 (Nat.le_of_eq hg.symm)) hb);have n1_:=aK_ (zAN (by repeat (first|(with_reducible first|exact HB.out|apply zAB|apply zAA|apply zAE)|exact HB.out)) hb);have n2_:=aK_ (hbox);have n3_:=aK_ ((by rw [hg];exact (zAK (by repeat (first|(with_reducible first|exact HB.out|apply zAB|apply zAA|apply zAE)|exact HB.out))):w.heap.size≤gb235));have n4_:=aK_ ((by rw [hg];exact (zAK (by repeat (first|(with_reducible first|exact HB.out|apply zAB|apply zAA|apply zAE)|exact HB.out))):w.heap.size≤gb235));clear HO0_3;clear HB;have HO0_3:=n0_;have HB:=n1_;have BK235:=n2_;have GW235:=n3_;have GE235:=n4_;clear n0_ n1_ n2_ n3_ n4_;clear hb hbox hg)|((with_reducible refine zAf (N:=4) rfl ?_);refine zAd ?hg (N:=4) ?hd (cs:=#[.string a1_0,.slice A1_1 l1_1.length c1_1,.int .i64 a1_2,.slice A1_3 l1_3.length c1_3]) (t:=25) ?hr ?_;(case hd=>rfl);(case hg=>rfl);(case hr=>first|(go_simp;done)|(go_simp;rfl));intro gb236 hg w14 hbox hb;have n0_:=aK_ (Kd.V_below (Kd.V_elderB (by (with_reducible repeat (first|apply Kd.V_alloc|apply Kd.V_drewN|apply Kd.V_drew));exact HO0_3.out) gb236 (Nat.le_of_eq hg.symm)) hb);have n1_:=aK_ (zAV (g:=gb235) (o:=.cells #[.string a0_0,.slice A0_1 l0_1.length c0_1,.int .i64 a0_2,.slice A0_3 l0_3.length c0_3] 25 (0,0)) (by (with_reducible repeat (first|refine zAG ?_ _|refine zAI ?_|refine zAH ?_ _));exact BK235.out) hb);have n2_:=aK_ (zAN (by repeat (first|(with_reducible first|exact HB.out|apply zAB|apply zAA|apply zAE|refine zAF ?_ GE235.out)|exact HB.out)) hb);have n3_:=aK_ (hbox);have n4_:=aK_ ((by rw [hg];exact (zAK (by repeat (first|(with_reducible first|exact HB.out|apply zAB|apply zAA|apply zAE|refine zAF ?_ GE235.out)|exact HB.out))):w.heap.size≤gb236));have n5_:=aK_ ((by rw [hg];exact (zAK (by repeat (first|(with_reducible first|exact HB.out|apply zAB|apply zAA|apply zAE|refine zAF ?_ GE235.out)|exact HB.out))):w.heap.size≤gb236));have n6_:=aK_ ((by rw [hg];exact Nat.ne_of_lt (blk_lt (g:=gb235) (o:=.cells #[.string a0_0,.slice A0_1 l0_1.length c0_1,.int .i64 a0_2,.slice A0_3 l0_3.length c0_3] 25 (0,0)) (by (with_reducible repeat (first|refine zAG ?_ _|refine zAI ?_|refine zAH ?_ _));exact BK235.out)):gb235≠gb236));have n7_:=aK_ ((by rw [hg];exact Nat.ne_of_gt (blk_lt (g:=gb235) (o:=.cells #[.string a0_0,.slice A0_1 l0_1.length c0_1,.int .i64 a0_2,.slice A0_3 l0_3.length c0_3] 25 (0,0)) (by (with_reducible repeat (first|refine zAG ?_ _|refine zAI ?_|refine zAH ?_ _));exact BK235.out)):gb236≠gb235));clear HO0_3;clear BK235;clear HB;have HO0_3:=n0_;have BK235:=n1_;have HB:=n2_;have BK236:=n3_;have GW236:=n4_;have GE236:=n5_;have NB235_236:=n6_;have NB236_235:=n7_;clear n0_ n1_ n2_ n3_ n4_ n5_ n6_ n7_;clear hb hbox hg)|((with_reducible refine gate_callee (f:=15) rfl ?_);refine goesL_ (some 9) rfl rfl Tryd.func15 (by kernel_rfl) rfl #[] rfl (by (try simp only [List.map_toArray,List.map_cons,List.map_nil]);first|done|rfl|(simp only [List.length_drop,List.length_take];rfl)) ?_;(with_reducible refine (octroilaw05_awake.calls k  true _ ?side1 A4.out).mono ?_);(case side1=>(first|(with_reducible exact hG)|((repeat (with_reducible first|exact hG|apply GW.drewN|apply GW.drew|apply GW.alloc));done)|exact GW.below hG (by repeat (first|(with_reducible first|exact HB.out|apply zAB|apply zAA|apply zAE|refine zAF ?_ GE235.out|refine zAF ?_ GE236.out)|exact HB.out))));rintro e w15 ⟨rfl,hb⟩;refine ⟨_,rfl,?_⟩;have n0_:=aK_ (Kd.V_below (by (with_reducible repeat (first|apply Kd.V_alloc|apply Kd.V_drewN|apply Kd.V_drew));exact HO0_3.out) hb);have n1_:=aK_ (zAV (g:=gb235) (o:=.cells #[.string a0_0,.slice A0_1 l0_1.length c0_1,.int .i64 a0_2,.slice A0_3 l0_3.length c0_3] 25 (0,0)) (by (with_reducible repeat (first|refine zAG ?_ _|refine zAI ?_|refine zAH ?_ _));exact BK235.out) hb);have n2_:=aK_ (zAV (g:=gb236) (o:=.cells #[.string a1_0,.slice A1_1 l1_1.length c1_1,.int .i64 a1_2,.slice A1_3 l1_3.length c1_3] 25 (0,0)) (by (with_reducible repeat (first|refine zAG ?_ _|refine zAI ?_|refine zAH ?_ _));exact BK236.out) hb);have n3_:=aK_ (zAN (by repeat (first|(with_reducible first|exact HB.out|apply zAB|apply zAA|apply zAE|refine zAF ?_ GE235.out|refine zAF ?_ GE236.out)|exact HB.out)) hb);clear HO0_3;clear BK235;clear BK236;clear HB;have HO0_3:=n0_;have BK235:=n1_;have BK236:=n2_;have HB:=n3_;clear n0_ n1_ n2_ n3_;(try clear hb);(try clear hb2);(try clear hk);(try clear hi);have hnb16:=NB235_236.out;have hnc16:=NB236_235.out;have hcz17_0:w15.cell? ⟨gb235,0,none⟩=some (.string a0_0):=(zAD BK235.out 0).trans rfl;have hcz17_1:w15.cell? ⟨gb235,1,none⟩=some (.slice A0_1 l0_1.length c0_1):=(zAD BK235.out 1).trans rfl;have hcz17_2:w15.cell? ⟨gb235,2,none⟩=some (.int .i64 a0_2):=(zAD BK235.out 2).trans rfl;have hcz17_3:w15.cell? ⟨gb235,3,none⟩=some (.slice A0_3 l0_3.length c0_3):=(zAD BK235.out 3).trans rfl;have hfz17_0:=zAC BK235.out 0;have hfz17_1:=zAC BK235.out 1;have hfz17_2:=zAC BK235.out 2;have hfz17_3:=zAC BK235.out 3)|((with_reducible refine zAf (N:=7) rfl ?_);refine zAd ?hg (N:=7) ?hd (cs:=#[.string (⟨#[]⟩:ByteArray),.slice none 0 0,.int .i64 0,.slice none 0 0]) (t:=25) ?hr ?_;(case hd=>rfl);(case hg=>rfl);(case hr=>first|(go_simp;done)|(go_simp;rfl));intro gb238 hg w18 hbox hb;have n0_:=aK_ (Kd.V_below (Kd.V_elderB (by (with_reducible repeat (first|apply Kd.V_alloc|apply Kd.V_drewN|apply Kd.V_drew));exact HO0_3.out) gb238 (Nat.le_of_eq hg.symm)) hb);have n1_:=aK_ (zAV (g:=gb235) (o:=.cells #[.string a0_0,.slice A0_1 l0_1.length c0_1,.int .i64 a0_2,.slice A0_3 l0_3.length c0_3] 25 (0,0)) (by (with_reducible repeat (first|refine zAG ?_ _|refine zAI ?_|refine zAH ?_ _));exact BK235.out) hb);have n2_:=aK_ (zAV (g:=gb236) (o:=.cells #[.string a1_0,.slice A1_1 l1_1.length c1_1,.int .i64 a1_2,.slice A1_3 l1_3.length c1_3] 25 (0,0)) (by (with_reducible repeat (first|refine zAG ?_ _|refine zAI ?_|refine zAH ?_ _));exact BK236.out) hb);have n3_:=aK_ (zAN (by repeat (first|(with_reducible first|exact HB.out|apply zAB|apply zAA|apply zAE|refine zAF ?_ GE235.out|refine zAF ?_ GE236.out)|exact HB.out)) hb);have n4_:=aK_ (hbox);have n5_:=aK_ ((by rw [hg];exact (zAK (by repeat (first|(with_reducible first|exact HB.out|apply zAB|apply zAA|apply zAE|refine zAF ?_ GE235.out|refine zAF ?_ GE236.out)|exact HB.out))):w.heap.size≤gb238));have n6_:=aK_ ((by rw [hg];exact (zAK (by repeat (first|(with_reducible first|exact HB.out|apply zAB|apply zAA|apply zAE|refine zAF ?_ GE235.out|refine zAF ?_ GE236.out)|exact HB.out))):w.heap.size≤gb238));have n7_:=aK_ ((by rw [hg];exact Nat.ne_of_lt (blk_lt (g:=gb235) (o:=.cells #[.string a0_0,.slice A0_1 l0_1.length c0_1,.int .i64 a0_2,.slice A0_3 l0_3.length c0_3] 25 (0,0)) (by (with_reducible repeat (first|refine zAG ?_ _|refine zAI ?_|refine zAH ?_ _));exact BK235.out)):gb235≠gb238));have n8_:=aK_ ((by rw [hg];exact Nat.ne_of_gt (blk_lt (g:=gb235) (o:=.cells #[.string a0_0,.slice A0_1 l0_1.length c0_1,.int .i64 a0_2,.slice A0_3 l0_3.length c0_3] 25 (0,0)) (by (with_reducible repeat (first|refine zAG ?_ _|refine zAI ?_|refine zAH ?_ _));exact BK235.out)):gb238≠gb235));have n9_:=aK_ ((by rw [hg];exact Nat.ne_of_lt (blk_lt (g:=gb236) (o:=.cells #[.string a1_0,.slice A1_1 l1_1.length c1_1,.int .i64 a1_2,.slice A1_3 l1_3.length c1_3] 25 (0,0)) (by (with_reducible repeat (first|refine zAG ?_ _|refine zAI ?_|refine zAH ?_ _));exact BK236.out)):gb236≠gb238));have n10_:=aK_ ((by rw [hg];exact Nat.ne_of_gt (blk_lt (g:=gb236) (o:=.cells #[.string a1_0,.slice A1_1 l1_1.length c1_1,.int .i64 a1_2,.slice A1_3 l1_3.length c1_3] 25 (0,0)) (by (with_reducible repeat (first|refine zAG ?_ _|refine zAI ?_|refine zAH ?_ _));exact BK236.out)):gb238≠gb236));clear HO0_3;clear BK235;clear BK236;clear HB;have HO0_3:=n0_;have BK235:=n1_;have BK236:=n2_;have HB:=n3_;have BK238:=n4_;have GW238:=n5_;have GE238:=n6_;have NB235_238:=n7_;have NB238_235:=n8_;have NB236_238:=n9_;have NB238_236:=n10_;clear n0_ n1_ n2_ n3_ n4_ n5_ n6_ n7_ n8_ n9_ n10_;clear hb hbox hg;have hnb19:=NB238_235.out;have hnc19:=NB235_238.out;have hnb20:=NB238_236.out;have hnc20:=NB236_238.out;have hcz21_0:w18.cell? ⟨gb238,0,none⟩=some (.string (⟨#[]⟩:ByteArray)):=(zAD BK238.out 0).trans rfl;have hcz21_1:w18.cell? ⟨gb238,1,none⟩=some (.slice none 0 0):=(zAD BK238.out 1).trans rfl;have hcz21_2:w18.cell? ⟨gb238,2,none⟩=some (.int .i64 0):=(zAD BK238.out 2).trans rfl;have hcz21_3:w18.cell? ⟨gb238,3,none⟩=some (.slice none 0 0):=(zAD BK238.out 3).trans rfl;have hfz21_0:=zAC BK238.out 0;have hfz21_1:=zAC BK238.out 1;have hfz21_2:=zAC BK238.out 2;have hfz21_3:=zAC BK238.out 3)|((with_reducible refine zAf (N:=16) rfl ?_);refine Kd.N_lit k33 _ 33 ?hg (N':=16) ?hd (xs:=([]:List (S33))) (inner:=[]) (ok:=(fun k_=>(P0_3_ k_∨w.heap.size≤k_)∧k_≠gb235∧k_≠gb236∧k_≠gb238)) (okp:=(fun k_=>(P0_3_ k_∨w.heap.size≤k_)∧k_≠gb235∧k_≠gb236∧k_≠gb238)) ?hr ?hp (fun _ hk=>hk) ((show ∀ k_,_≤k_→(fun k_=>(P0_3_ k_∨w.heap.size≤k_)∧k_≠gb235∧k_≠gb236∧k_≠gb238) k_ from fun k_ hk=>⟨(.inr (Nat.le_trans (zAK (by repeat (first|(with_reducible first|exact HB.out|apply zAB|apply zAA|apply zAE|refine zAF ?_ GE235.out|refine zAF ?_ GE236.out|refine zAF ?_ GE238.out)|exact HB.out))) hk)),Kd.freshB (g:=gb235) (o:=.cells #[.string a0_0,.slice A0_1 l0_1.length c0_1,.int .i64 a0_2,.slice A0_3 l0_3.length c0_3] 25 (0,0)) (by (with_reducible repeat (first|refine zAG ?_ _|refine zAI ?_|refine zAH ?_ _));refine blk_far ?_ NB235_238.out _;(with_reducible repeat (first|refine zAG ?_ _|refine zAI ?_|refine zAH ?_ _));refine blk_far ?_ NB235_238.out _;(with_reducible repeat (first|refine zAG ?_ _|refine zAI ?_|refine zAH ?_ _));refine blk_far ?_ NB235_238.out _;(with_reducible repeat (first|refine zAG ?_ _|refine zAI ?_|refine zAH ?_ _));refine blk_far ?_ NB235_238.out _;(with_reducible repeat (first|refine zAG ?_ _|refine zAI ?_|refine zAH ?_ _));exact BK235.out) k_ hk,Kd.freshB (g:=gb236) (o:=.cells #[.string a1_0,.slice A1_1 l1_1.length c1_1,.int .i64 a1_2,.slice A1_3 l1_3.length c1_3] 25 (0,0)) (by (with_reducible repeat (first|refine zAG ?_ _|refine zAI ?_|refine zAH ?_ _));refine blk_far ?_ NB236_238.out _;(with_reducible repeat (first|refine zAG ?_ _|refine zAI ?_|refine zAH ?_ _));refine blk_far ?_ NB236_238.out _;(with_reducible repeat (first|refine zAG ?_ _|refine zAI ?_|refine zAH ?_ _));refine blk_far ?_ NB236_238.out _;(with_reducible repeat (first|refine zAG ?_ _|refine zAI ?_|refine zAH ?_ _));refine blk_far ?_ NB236_238.out _;(with_reducible repeat (first|refine zAG ?_ _|refine zAI ?_|refine zAH ?_ _));exact BK236.out) k_ hk,Kd.freshB (g:=gb238) (o:=.cells #[.string a0_0,.slice A0_1 l0_1.length c0_1,.int .i64 a0_2,.slice A0_3 l0_3.length c0_3] 25 (0,0)) (by (with_reducible repeat (first|refine zAG ?_ _|refine zAI ?_|refine zAH ?_ _));refine blk_put (cs:=#[.string a0_0,.slice A0_1 l0_1.length c0_1,.int .i64 a0_2,.slice none 0 0]) ?_ 3 _ rfl;(with_reducible repeat (first|refine zAG ?_ _|refine zAI ?_|refine zAH ?_ _));refine blk_put (cs:=#[.string a0_0,.slice A0_1 l0_1.length c0_1,.int .i64 0,.slice none 0 0]) ?_ 2 _ rfl;(with_reducible repeat (first|refine zAG ?_ _|refine zAI ?_|refine zAH ?_ _));refine blk_put (cs:=#[.string a0_0,.slice none 0 0,.int .i64 0,.slice none 0 0]) ?_ 1 _ rfl;(with_reducible repeat (first|refine zAG ?_ _|refine zAI ?_|refine zAH ?_ _));refine blk_put (cs:=#[.string (⟨#[]⟩:ByteArray),.slice none 0 0,.int .i64 0,.slice none 0 0]) ?_ 0 _ rfl;(with_reducible repeat (first|refine zAG ?_ _|refine zAI ?_|refine zAH ?_ _));exact BK238.out) k_ hk⟩) _ (Nat.le_refl _)) (Below.refl _ _) (Nat.le_refl _) (by simp) ?_;(case hd=>rfl);(case hg=>rfl);(case hr=>first|(go_simp;done)|(go_simp;rfl));(case hp=>exact (Reps.none _ _));intro v240 w22 ho23 hb hg_ hnew_;clear hg_ hnew_;(first|rw [← Ny239.out] at ho23|(simp only [Int.reduceToNat] at ho23;rw [← Ny239.out] at ho23));have n0_:=aK_ (Kd.V_elder' (by (with_reducible repeat (first|apply Kd.V_alloc|apply Kd.V_drewN|apply Kd.V_drew));exact (Kd.V_mono (Kd.V_far (p:=⟨gb238,3,none⟩) (Kd.V_far (p:=⟨gb238,2,none⟩) (Kd.V_far (p:=⟨gb238,1,none⟩) (Kd.V_far (p:=⟨gb238,0,none⟩) (Kd.V_mono HO0_3.out (fun k_ hk=>(⟨hk,hk.2⟩:_∧k_≠gb238))) (fun _ hk=>hk.2) (.string a0_0)) (fun _ hk=>hk.2) (.slice A0_1 l0_1.length c0_1)) (fun _ hk=>hk.2) (.int .i64 a0_2)) (fun _ hk=>hk.2) (.slice A0_3 l0_3.length c0_3)) (fun _ h_=>h_.1))) (Kd.N_base ho23) hb);have n1_:=aK_ (Kd.N_lower ho23 (zAK (by repeat (first|(with_reducible first|exact HB.out|apply zAB|apply zAA|apply zAE|refine zAF ?_ GE235.out|refine zAF ?_ GE236.out|refine zAF ?_ GE238.out)|exact HB.out))));have n2_:=aK_ (zAV (g:=gb235) (o:=.cells #[.string a0_0,.slice A0_1 l0_1.length c0_1,.int .i64 a0_2,.slice A0_3 l0_3.length c0_3] 25 (0,0)) (by (with_reducible repeat (first|refine zAG ?_ _|refine zAI ?_|refine zAH ?_ _));refine blk_far ?_ NB235_238.out _;(with_reducible repeat (first|refine zAG ?_ _|refine zAI ?_|refine zAH ?_ _));refine blk_far ?_ NB235_238.out _;(with_reducible repeat (first|refine zAG ?_ _|refine zAI ?_|refine zAH ?_ _));refine blk_far ?_ NB235_238.out _;(with_reducible repeat (first|refine zAG ?_ _|refine zAI ?_|refine zAH ?_ _));refine blk_far ?_ NB235_238.out _;(with_reducible repeat (first|refine zAG ?_ _|refine zAI ?_|refine zAH ?_ _));exact BK235.out) hb);have n3_:=aK_ (zAV (g:=gb236) (o:=.cells #[.string a1_0,.slice A1_1 l1_1.length c1_1,.int .i64 a1_2,.slice A1_3 l1_3.length c1_3] 25 (0,0)) (by (with_reducible repeat (first|refine zAG ?_ _|refine zAI ?_|refine zAH ?_ _));refine blk_far ?_ NB236_238.out _;(with_reducible repeat (first|refine zAG ?_ _|refine zAI ?_|refine zAH ?_ _));refine blk_far ?_ NB236_238.out _;(with_reducible repeat (first|refine zAG ?_ _|refine zAI ?_|refine zAH ?_ _));refine blk_far ?_ NB236_238.out _;(with_reducible repeat (first|refine zAG ?_ _|refine zAI ?_|refine zAH ?_ _));refine blk_far ?_ NB236_238.out _;(with_reducible repeat (first|refine zAG ?_ _|refine zAI ?_|refine zAH ?_ _));exact BK236.out) hb);have n4_:=aK_ (zAV (g:=gb238) (o:=.cells #[.string a0_0,.slice A0_1 l0_1.length c0_1,.int .i64 a0_2,.slice A0_3 l0_3.length c0_3] 25 (0,0)) (by (with_reducible repeat (first|refine zAG ?_ _|refine zAI ?_|refine zAH ?_ _));refine blk_put (cs:=#[.string a0_0,.slice A0_1 l0_1.length c0_1,.int .i64 a0_2,.slice none 0 0]) ?_ 3 _ rfl;(with_reducible repeat (first|refine zAG ?_ _|refine zAI ?_|refine zAH ?_ _));refine blk_put (cs:=#[.string a0_0,.slice A0_1 l0_1.length c0_1,.int .i64 0,.slice none 0 0]) ?_ 2 _ rfl;(with_reducible repeat (first|refine zAG ?_ _|refine zAI ?_|refine zAH ?_ _));refine blk_put (cs:=#[.string a0_0,.slice none 0 0,.int .i64 0,.slice none 0 0]) ?_ 1 _ rfl;(with_reducible repeat (first|refine zAG ?_ _|refine zAI ?_|refine zAH ?_ _));refine blk_put (cs:=#[.string (⟨#[]⟩:ByteArray),.slice none 0 0,.int .i64 0,.slice none 0 0]) ?_ 0 _ rfl;(with_reducible repeat (first|refine zAG ?_ _|refine zAI ?_|refine zAH ?_ _));exact BK238.out) hb);have n5_:=aK_ (zAN (by repeat (first|(with_reducible first|exact HB.out|apply zAB|apply zAA|apply zAE|refine zAF ?_ GE235.out|refine zAF ?_ GE236.out|refine zAF ?_ GE238.out)|exact HB.out)) hb);clear HO0_3;clear BK235;clear BK236;clear BK238;clear HB;have HO0_3:=n0_;have HO241:=n1_;have BK235:=n2_;have BK236:=n3_;have BK238:=n4_;have HB:=n5_;clear n0_ n1_ n2_ n3_ n4_ n5_;clear hb ho23;have hcz24_0:w22.cell? ⟨gb235,0,none⟩=some (.string a0_0):=(zAD BK235.out 0).trans rfl;have hcz24_1:w22.cell? ⟨gb235,1,none⟩=some (.slice A0_1 l0_1.length c0_1):=(zAD BK235.out 1).trans rfl;have hcz24_2:w22.cell? ⟨gb235,2,none⟩=some (.int .i64 a0_2):=(zAD BK235.out 2).trans rfl;have hcz24_3:w22.cell? ⟨gb235,3,none⟩=some (.slice A0_3 l0_3.length c0_3):=(zAD BK235.out 3).trans rfl;have hfz24_0:=zAC BK235.out 0;have hfz24_1:=zAC BK235.out 1;have hfz24_2:=zAC BK235.out 2;have hfz24_3:=zAC BK235.out 3)|((with_reducible refine gate_builtin (b:=.append) (xs:=#[.tmp 16,.tmp 18]) rfl ?_);at_builtin;refine Kd.N_append_rows k33 (w0:=w) w.heap.size rfl (.tmp 16) (.tmp 18) 23 33 (.agg #[(.int .i64 0),(.int .i64 0),(.int .i64 0),(.int .i64 0),(.slice none 0 0),(.int .i64 0)]) 64 rfl Tryd.underlying23 info33 rfl (by decide) (by omega) v240 y239 l0_3 _ _ _ (fun k_=>(P0_3_ k_∨w.heap.size≤k_)∧k_≠gb235∧k_≠gb236∧k_≠gb238) (fun k_=>((fun k_=>(P0_3_ k_∨w.heap.size≤k_)∧k_≠gb235∧k_≠gb236∧k_≠gb238)) k_∧some k_≠(v240:Value).ownBlock) rfl rfl ?aO ?aR (fun _ hk=>hk) ?aF ?aB ?aS ?aL ?_;(case aR=>exact (by skip;exact Kd.V_F (Kd.V_mono (ok':=(fun k_=>((fun k_=>(P0_3_ k_∨w.heap.size≤k_)∧k_≠gb235∧k_≠gb236∧k_≠gb238)) k_∧some k_≠(v240:Value).ownBlock)) (HO0_3.out) (fun k_ hk=>⟨⟨hk.1.1.1.1,⟨hk.1.1.1.2,⟨hk.1.1.2,hk.1.2⟩⟩⟩,hk.2⟩))));(case aB=>exact (by repeat (first|(with_reducible first|exact HB.out|apply zAB|apply zAA|apply zAE|refine zAF ?_ GE235.out|refine zAF ?_ GE236.out|refine zAF ?_ GE238.out)|exact HB.out)));(case aF=>exact (fun k_ hk=>⟨(.inr (Nat.le_trans (zAK (by repeat (first|(with_reducible first|exact HB.out|apply zAB|apply zAA|apply zAE|refine zAF ?_ GE235.out|refine zAF ?_ GE236.out|refine zAF ?_ GE238.out)|exact HB.out))) hk)),Kd.freshB (g:=gb235) (o:=.cells #[.string a0_0,.slice A0_1 l0_1.length c0_1,.int .i64 a0_2,.slice A0_3 l0_3.length c0_3] 25 (0,0)) (by (with_reducible repeat (first|refine zAG ?_ _|refine zAI ?_|refine zAH ?_ _));exact BK235.out) k_ hk,Kd.freshB (g:=gb236) (o:=.cells #[.string a1_0,.slice A1_1 l1_1.length c1_1,.int .i64 a1_2,.slice A1_3 l1_3.length c1_3] 25 (0,0)) (by (with_reducible repeat (first|refine zAG ?_ _|refine zAI ?_|refine zAH ?_ _));exact BK236.out) k_ hk,Kd.freshB (g:=gb238) (o:=.cells #[.string a0_0,.slice A0_1 l0_1.length c0_1,.int .i64 a0_2,.slice A0_3 l0_3.length c0_3] 25 (0,0)) (by (with_reducible repeat (first|refine zAG ?_ _|refine zAI ?_|refine zAH ?_ _));exact BK238.out) k_ hk⟩));(case aO=>exact (by (with_reducible repeat (first|apply Kd.N_alloc|apply Kd.N_drewN|apply Kd.N_drew));exact HO241.out));(case aS=>exact (zAK (by repeat (first|(with_reducible first|exact HB.out|apply zAB|apply zAA|apply zAE|refine zAF ?_ GE235.out|refine zAF ?_ GE236.out|refine zAF ?_ GE238.out)|exact HB.out))));(case aL=>have:=LMc12.out;omega);intro v243 w25 ho hb hg hat;rw [← Ny242.out] at ho;have n0_:=aK_ (Kd.V_afterv (ok:=(fun k_=>(P0_3_ k_∨w.heap.size≤k_)∧k_≠gb235∧k_≠gb236∧k_≠gb238)) (by (with_reducible repeat (first|apply Kd.V_alloc|apply Kd.V_drewN|apply Kd.V_drew));exact Kd.V_mono HO0_3.out (fun _ hk=>⟨⟨hk.1.1.1.1,⟨hk.1.1.1.2,⟨hk.1.1.2,hk.1.2⟩⟩⟩,hk.2⟩)) hg hat);have n1_:=aK_ (blk_grown (g:=gb235) (o:=.cells #[.string a0_0,.slice A0_1 l0_1.length c0_1,.int .i64 a0_2,.slice A0_3 l0_3.length c0_3] 25 (0,0)) (by (with_reducible repeat (first|refine zAG ?_ _|refine zAI ?_|refine zAH ?_ _));exact BK235.out) hg (Kd.N_ne HO241.out BK235.out (by decide)));have n2_:=aK_ (blk_grown (g:=gb236) (o:=.cells #[.string a1_0,.slice A1_1 l1_1.length c1_1,.int .i64 a1_2,.slice A1_3 l1_3.length c1_3] 25 (0,0)) (by (with_reducible repeat (first|refine zAG ?_ _|refine zAI ?_|refine zAH ?_ _));exact BK236.out) hg (Kd.N_ne HO241.out BK236.out (by decide)));have n3_:=aK_ (blk_grown (g:=gb238) (o:=.cells #[.string a0_0,.slice A0_1 l0_1.length c0_1,.int .i64 a0_2,.slice A0_3 l0_3.length c0_3] 25 (0,0)) (by (with_reducible repeat (first|refine zAG ?_ _|refine zAI ?_|refine zAH ?_ _));exact BK238.out) hg (Kd.N_ne HO241.out BK238.out (by decide)));have n4_:=aK_ (hb);have n5_:=aK_ (ho);clear HO0_3;clear BK235;clear BK236;clear BK238;clear HB;clear HO241;have HO0_3:=n0_;have BK235:=n1_;have BK236:=n2_;have BK238:=n3_;have HB:=n4_;have HO244:=n5_;clear n0_ n1_ n2_ n3_ n4_ n5_;clear ho hb hg hat;obtain ⟨Ao26,co26,eo26⟩:=Kd.N_slice HO244.out;subst eo26;have hcz27_0:w25.cell? ⟨gb238,0,none⟩=some (.string a0_0):=(zAD BK238.out 0).trans rfl;have hcz27_1:w25.cell? ⟨gb238,1,none⟩=some (.slice A0_1 l0_1.length c0_1):=(zAD BK238.out 1).trans rfl;have hcz27_2:w25.cell? ⟨gb238,2,none⟩=some (.int .i64 a0_2):=(zAD BK238.out 2).trans rfl;have hcz27_3:w25.cell? ⟨gb238,3,none⟩=some (.slice A0_3 l0_3.length c0_3):=(zAD BK238.out 3).trans rfl;have hfz27_0:=zAC BK238.out 0;have hfz27_1:=zAC BK238.out 1;have hfz27_2:=zAC BK238.out 2;have hfz27_3:=zAC BK238.out 3))
    (try simp only [Act.put,List.setIfInBounds_toArray,List.set_cons_zero,List.set_cons_succ])
    go_loopg [8] k (fun kq v8 w'=>∃ (x8_1:Int) (x236003_1:List (S33)) (x239003_1:List (S33)) (u236003:Value) (u239003:Value),v8 = .int .i64 x8_1∧zAg (zAW.l0 kq a2 x8_1 a0_0 l0_1 a0_2 x236003_1 a1_0 l1_1 a1_2 l1_3 a0_0 l0_1 a0_2 x239003_1=some r)∧zAg (kq≤k)∧zAg (Kd.V k33 33 w' w.heap.size (fun k_=>(P0_3_ k_∨w.heap.size≤k_)∧some k_≠(u239003:Value).ownBlock∧k_≠gb235∧k_≠gb236∧k_≠gb238) u236003 x236003_1)∧zAg (Kd.N k33 33 w' w.heap.size (fun k_=>(P0_3_ k_∨w.heap.size≤k_)∧k_≠gb235∧k_≠gb236∧k_≠gb238) u239003 x239003_1)∧zAg (w'.heap[gb235]?=some (.cells #[.string a0_0,(.slice A0_1 l0_1.length c0_1),.int .i64 a0_2,u236003] 25 (0,0)))∧zAg (w'.heap[gb236]?=some (.cells #[.string a1_0,(.slice A1_1 l1_1.length c1_1),.int .i64 a1_2,(.slice A1_3 l1_3.length c1_3)] 25 (0,0)))∧zAg (w'.heap[gb238]?=some (.cells #[.string a0_0,(.slice A0_1 l0_1.length c0_1),.int .i64 a0_2,u239003] 25 (0,0)))∧zAg (Below w.heap.size w w'))
    case atStart=>exact ⟨(0),(l0_3),(y242),(.slice A0_3 l0_3.length c0_3),(.slice Ao26 y242.length co26),(by first|rfl|(simp;done)|(simp [*];done)),H',⟨Nat.le_refl _⟩,⟨by (with_reducible repeat (first|apply Kd.V_alloc|apply Kd.V_drewN|apply Kd.V_drew));exact Kd.V_mono (Kd.V_far (p:=⟨gb238,3,none⟩) (Kd.V_mono HO0_3.out (fun k_ hk=>(⟨hk,hk.1.2.2.2⟩:_∧k_≠gb238))) (fun _ hk=>hk.2) (.slice Ao26 y242.length co26)) (fun _ hk=>⟨hk.1.1.1,⟨hk.1.2,⟨hk.1.1.2.1,⟨hk.1.1.2.2.1,hk.1.1.2.2.2⟩⟩⟩⟩)⟩,⟨by (with_reducible repeat (first|apply Kd.N_alloc|apply Kd.N_drewN|apply Kd.N_drew));exact Kd.N_mono (Kd.N_far (p:=⟨gb238,3,none⟩) (Kd.N_mono HO244.out (fun k_ hk=>(⟨hk,hk.2.2.2⟩:_∧k_≠gb238))) (fun _ hk=>hk.2) (.slice Ao26 y242.length co26)) (fun _ hk=>⟨hk.1.1,⟨hk.1.2.1,⟨hk.1.2.2.1,hk.1.2.2.2⟩⟩⟩)⟩,⟨by (with_reducible repeat (first|refine zAG ?_ _|refine zAI ?_|refine zAH ?_ _));refine blk_far ?_ NB235_238.out _;(with_reducible repeat (first|refine zAG ?_ _|refine zAI ?_|refine zAH ?_ _));exact BK235.out⟩,⟨by (with_reducible repeat (first|refine zAG ?_ _|refine zAI ?_|refine zAH ?_ _));refine blk_far ?_ NB236_238.out _;(with_reducible repeat (first|refine zAG ?_ _|refine zAI ?_|refine zAH ?_ _));exact BK236.out⟩,⟨by (with_reducible repeat (first|refine zAG ?_ _|refine zAI ?_|refine zAH ?_ _));refine blk_put (cs:=#[.string a0_0,.slice A0_1 l0_1.length c0_1,.int .i64 a0_2,.slice A0_3 l0_3.length c0_3]) ?_ 3 _ rfl;(with_reducible repeat (first|refine zAG ?_ _|refine zAI ?_|refine zAH ?_ _));exact BK238.out⟩,⟨by repeat (first|(with_reducible first|exact HB.out|apply zAB|apply zAA|apply zAE|refine zAF ?_ GE235.out|refine zAF ?_ GE236.out|refine zAF ?_ GE238.out)|exact HB.out)⟩⟩
    case round =>
     clear H'
     try clear c1
     try clear c2
     try clear p2
     try clear c4
     try clear c5
     try clear c6
     try clear c6b0
     try clear c6b1
     try clear c10
     try clear c12
     try clear c15
     try clear c16
     try clear c19
     try clear c20
     try clear hcz11_0
     try clear hcz11_1
     try clear hcz11_2
     try clear hcz11_3
     try clear hcz17_0
     try clear hcz17_1
     try clear hcz17_2
     try clear hcz17_3
     try clear hcz21_0
     try clear hcz21_1
     try clear hcz21_2
     try clear hcz21_3
     try clear hcz24_0
     try clear hcz24_1
     try clear hcz24_2
     try clear hcz24_3
     try clear hcz27_0
     try clear hcz27_1
     try clear hcz27_2
     try clear hcz27_3
     try clear hfz11_0
     try clear hfz11_1
     try clear hfz11_2
     try clear hfz11_3
     try clear hfz17_0
     try clear hfz17_1
     try clear hfz17_2
     try clear hfz17_3
     try clear hfz21_0
     try clear hfz21_1
     try clear hfz21_2
     try clear hfz21_3
     try clear hfz24_0
     try clear hfz24_1
     try clear hfz24_2
     try clear hfz24_3
     try clear hfz27_0
     try clear hfz27_1
     try clear hfz27_2
     try clear hfz27_3
     obtain ⟨x8_1,x236003_1,x239003_1,u236003,u239003,rfl,HA,HK1,HO_236003,HO_239003,BK235,BK236,BK238,HB⟩:=hrel
     cases gk with
     |zero=>exact absurd HA.out (by simp [zAW.l0])
     |succ k1 =>
      have H:=HA.out
      clear HA
      simp only [zAW.l0] at H
      by_cases c28:x8_1<(x239003_1.length:Int)
      ·rw [if_pos c28] at H
       have c28b0:decide (x8_1<(x239003_1.length:Int))=true:=decide_eq_true c28
       clear c28
       by_cases c29:0≤x8_1
       ·rw [if_pos c29] at H
        have c29b0:decide (0≤x8_1)=true:=decide_eq_true c29
        clear c29
        obtain ⟨y245,hy245⟩:∃ y_:List (S33),y_=(x239003_1.set (x8_1:Int).toNat (⟨(zAJ x239003_1 x8_1).f0,(zAJ x239003_1 x8_1).f1,(zAJ x239003_1 x8_1).f2,(zAJ x239003_1 x8_1).f3,(zAJ x239003_1 x8_1).f4,a2⟩:S33)):=⟨_,rfl⟩
        replace H:(zAW.l0 k1 a2 (wrap64 (x8_1+1)) a0_0 l0_1 a0_2 x236003_1 a1_0 l1_1 a1_2 l1_3 a0_0 l0_1 a0_2 y245)=some r:=by first|(rw [hy245];with_reducible exact H)|(have H2_:=(Option.bind_some _ _).symm.trans H;rw [hy245];with_reducible exact H2_)|(have H2_:=(Option.bind_some _ _).symm.trans H;with_reducible exact H2_)|with_reducible exact H|(rw [hy245];exact H)|exact H
        have Ny245:=aK_ hy245
        clear hy245
        have H':=aK_ H
        clear H
        have hnb31:=NB238_235.out
        have hnc31:=NB235_238.out
        have hnb32:=NB238_236.out
        have hnc32:=NB236_238.out
        have hcz33_0:wr.cell? ⟨gb238,0,none⟩=some (.string a0_0):=(zAD BK238.out 0).trans rfl
        have hcz33_1:wr.cell? ⟨gb238,1,none⟩=some (.slice A0_1 l0_1.length c0_1):=(zAD BK238.out 1).trans rfl
        have hcz33_2:wr.cell? ⟨gb238,2,none⟩=some (.int .i64 a0_2):=(zAD BK238.out 2).trans rfl
        have hcz33_3:wr.cell? ⟨gb238,3,none⟩=some (u239003):=(zAD BK238.out 3).trans rfl
        have hfz33_0:=zAC BK238.out 0
        have hfz33_1:=zAC BK238.out 1
        have hfz33_2:=zAC BK238.out 2
        have hfz33_3:=zAC BK238.out 3
        obtain ⟨Ao34,co34,eo34⟩:=Kd.N_slice HO_239003.out
        subst eo34
        have p30:0≤(x8_1:Int):=of_decide_eq_true (by first|(with_reducible assumption)|assumption)
        have q30:(x8_1:Int)<((x239003_1.length:Int):Int):=of_decide_eq_true (by first|(with_reducible assumption)|assumption)
        obtain ⟨go30,co30,eo30,gb30,gl30,cl30,HG30⟩:=Kd.N_form HO_239003.out (by omega)
        (first|cases eo30|(injection eo30 with ea_ en_ ec_;(first|subst ea_|(injection ea_ with ea_;subst ea_));subst ec_;clear en_))
        have GB30:=aK_ gb30
        have GG30:=aK_ HG30
        clear gb30 gl30 HG30
        obtain ⟨ce30,hcl30,hM30,hcc30,hfr30⟩:=Kd.N_elem HO_239003.out z33 (x8_1:Int) p30 q30
        obtain ⟨ua30_4,uc30_4,rfl,ul30_4,ge30_4⟩:=k33_openF hM30
        have hx30_0:wr.cell? ⟨go30,(x8_1:Int).toNat * 6,none⟩=some (.int .i64 ((zAJ x239003_1 x8_1).f0)):=hcc30 0 _ rfl
        have hx30_1:wr.cell? ⟨go30,(x8_1:Int).toNat * 6+1,none⟩=some (.int .i64 ((zAJ x239003_1 x8_1).f1)):=hcc30 1 _ rfl
        have hx30_2:wr.cell? ⟨go30,(x8_1:Int).toNat * 6+2,none⟩=some (.int .i64 ((zAJ x239003_1 x8_1).f2)):=hcc30 2 _ rfl
        have hx30_3:wr.cell? ⟨go30,(x8_1:Int).toNat * 6+3,none⟩=some (.int .i64 ((zAJ x239003_1 x8_1).f3)):=hcc30 3 _ rfl
        have hx30_4:wr.cell? ⟨go30,(x8_1:Int).toNat * 6+4,none⟩=some (.slice ua30_4 ((zAJ x239003_1 x8_1).f4).length uc30_4):=hcc30 4 _ rfl
        have hx30_5:wr.cell? ⟨go30,(x8_1:Int).toNat * 6+5,none⟩=some (.int .i64 ((zAJ x239003_1 x8_1).f5)):=hcc30 5 _ rfl
        have hf30_0:wr.frozen? ⟨go30,(x8_1:Int).toNat * 6,none⟩=false:=hfr30 0
        have hf30_1:wr.frozen? ⟨go30,(x8_1:Int).toNat * 6+1,none⟩=false:=hfr30 1
        have hf30_2:wr.frozen? ⟨go30,(x8_1:Int).toNat * 6+2,none⟩=false:=hfr30 2
        have hf30_3:wr.frozen? ⟨go30,(x8_1:Int).toNat * 6+3,none⟩=false:=hfr30 3
        have hf30_4:wr.frozen? ⟨go30,(x8_1:Int).toNat * 6+4,none⟩=false:=hfr30 4
        have hf30_5:wr.frozen? ⟨go30,(x8_1:Int).toNat * 6+5,none⟩=false:=hfr30 5
        clear hcl30 hcc30 hfr30 hM30
        replace p30:=eq_true p30
        replace q30:=eq_true q30
        have HX35:=aK_ (show Kd.N k33 33 wr w.heap.size (fun k_=>(P0_3_ k_∨w.heap.size≤k_)∧k_≠gb235∧k_≠gb236∧k_≠gb238) (.slice (some ⟨go30,0,none⟩) x239003_1.length co34) x239003_1 from (by (with_reducible repeat (first|apply Kd.N_alloc|apply Kd.N_drewN|apply Kd.N_drew));exact HO_239003.out))
        obtain ⟨ce35,hcl35,hM35,hcc35,hfr35⟩:=Kd.N_elem HX35.out z33 (x8_1:Int) (of_decide_eq_true (by first|(with_reducible assumption)|assumption)) (by have h_:(x8_1:Int)<((x239003_1.length:Int):Int):=of_decide_eq_true (by first|(with_reducible assumption)|assumption);first|exact h_|(have e_:=(Kd.N_reads' HO_239003.out).1;omega)|simpa using h_)
        obtain ⟨ua35_4,uc35_4,rfl,ul35_4,ge35_4⟩:=k33_openF hM35
        have HP35:=Kd.N_seg HX35.out (x8_1:Int) (of_decide_eq_true (by first|(with_reducible assumption)|assumption)) (by have h_:(x8_1:Int)<((x239003_1.length:Int):Int):=of_decide_eq_true (by first|(with_reducible assumption)|assumption);first|exact h_|(have e_:=(Kd.N_reads' HO_239003.out).1;omega)|simpa using h_) (seg:=[.int .i64 a2]) (j:=5) hcl35 hcc35 (show 6≤6 from by decide) (x':=(⟨(zAJ x239003_1 x8_1).f0,(zAJ x239003_1 x8_1).f1,(zAJ x239003_1 x8_1).f2,(zAJ x239003_1 x8_1).f3,(zAJ x239003_1 x8_1).f4,a2⟩:S33)) (k33_mkF _ _ (⟨(zAJ x239003_1 x8_1).f0,(zAJ x239003_1 x8_1).f1,(zAJ x239003_1 x8_1).f2,(zAJ x239003_1 x8_1).f3,(zAJ x239003_1 x8_1).f4,a2⟩:S33) ul35_4 ge35_4) (fun _ hk=>hk)
        have hx35_5:=hcc35 5 _ rfl
        (try simp only [show (k33).sz=6 from rfl,Nat.mul_one,Nat.add_zero] at hx35_5)
        have hf35_5:=hfr35 5
        (try simp only [show (k33).sz=6 from rfl,Nat.mul_one,Nat.add_zero] at hf35_5)
        clear hcl35 hcc35 hfr35 hM35
        go_wp2_with (first|((with_reducible refine gate_store (t:=3) (p:=33) rfl ?_);refine store_event (t:=3) (p:=33) (v:=?vo_w36) (w1:=(wr.setCell ⟨go30,(x8_1:Int).toNat * 6+5,none⟩ (.int .i64 a2))) ?hg ?ho ?hn ?hr ?_;(case ho=>rfl);(case hg=>rfl);(case hn=>rfl);(case hr=>first|(go_simp;done)|(go_simp;rfl));intro w36 hw;have hg:wr.grownBy w36 (some go30):=(by rw [hw];exact HP35.2);have hp_:Kd.N k33 33 w36 w.heap.size (fun k_=>(P0_3_ k_∨w.heap.size≤k_)∧k_≠gb235∧k_≠gb236∧k_≠gb238) (.slice (some ⟨go30,0,none⟩) x239003_1.length co34) y245:=(by rw [hw,Ny245.out];exact HP35.1);clear HP35;have n0_:=aK_ (Kd.V_afterv (v:=(.slice (some ⟨go30,0,none⟩) x239003_1.length co34)) (v1:=(.slice (some ⟨go30,0,none⟩) x239003_1.length co34)) (ok:=(fun k_=>(P0_3_ k_∨w.heap.size≤k_)∧k_≠gb235∧k_≠gb236∧k_≠gb238)) (by (with_reducible repeat (first|apply Kd.V_alloc|apply Kd.V_drewN|apply Kd.V_drew));exact Kd.V_mono HO_236003.out (fun _ hk=>⟨⟨hk.1,⟨hk.2.2.1,⟨hk.2.2.2.1,hk.2.2.2.2⟩⟩⟩,hk.2.1⟩)) hg (.inl rfl));have n1_:=aK_ (hp_);have n2_:=aK_ (blk_grown (g:=gb235) (o:=.cells #[.string a0_0,.slice A0_1 l0_1.length c0_1,.int .i64 a0_2,u236003] 25 (0,0)) (by (with_reducible repeat (first|refine zAG ?_ _|refine zAI ?_|refine zAH ?_ _));exact BK235.out) hg (Kd.N_ne HO_239003.out BK235.out (by decide)));have n3_:=aK_ (blk_grown (g:=gb236) (o:=.cells #[.string a1_0,.slice A1_1 l1_1.length c1_1,.int .i64 a1_2,.slice A1_3 l1_3.length c1_3] 25 (0,0)) (by (with_reducible repeat (first|refine zAG ?_ _|refine zAI ?_|refine zAH ?_ _));exact BK236.out) hg (Kd.N_ne HO_239003.out BK236.out (by decide)));have n4_:=aK_ (blk_grown (g:=gb238) (o:=.cells #[.string a0_0,.slice A0_1 l0_1.length c0_1,.int .i64 a0_2,.slice (some ⟨go30,0,none⟩) x239003_1.length co34] 25 (0,0)) (by (with_reducible repeat (first|refine zAG ?_ _|refine zAI ?_|refine zAH ?_ _));exact BK238.out) hg (Kd.N_ne HO_239003.out BK238.out (by decide)));have n5_:=aK_ ((by rw [hw];exact zAF (HB.out) GB30.out:Below w.heap.size w w36));clear HO_236003;clear HO_239003;clear BK235;clear BK236;clear BK238;clear HB;have HO_236003:=n0_;have HO_239003:=n1_;have BK235:=n2_;have BK236:=n3_;have BK238:=n4_;have HB:=n5_;clear n0_ n1_ n2_ n3_ n4_ n5_;clear hg hw hp_))
        go_roundg k1
        case measure=>have:=HK1.out;omega
        case rel=>exact ⟨(wrap64 (x8_1+1)),(x236003_1),(y245),(u236003),(.slice (some ⟨go30,0,none⟩) x239003_1.length co34),(by first|rfl|(simp;done)|(simp [*];done)),H',⟨by have:=HK1.out;omega⟩,⟨by (with_reducible repeat (first|apply Kd.V_alloc|apply Kd.V_drewN|apply Kd.V_drew));exact Kd.V_mono HO_236003.out (fun _ hk=>⟨hk.1.1,⟨hk.2,⟨hk.1.2.1,⟨hk.1.2.2.1,hk.1.2.2.2⟩⟩⟩⟩)⟩,⟨by (with_reducible repeat (first|apply Kd.N_alloc|apply Kd.N_drewN|apply Kd.N_drew));exact HO_239003.out⟩,⟨by (with_reducible repeat (first|refine zAG ?_ _|refine zAI ?_|refine zAH ?_ _));exact BK235.out⟩,⟨by (with_reducible repeat (first|refine zAG ?_ _|refine zAI ?_|refine zAH ?_ _));exact BK236.out⟩,⟨by (with_reducible repeat (first|refine zAG ?_ _|refine zAI ?_|refine zAH ?_ _));exact BK238.out⟩,⟨by repeat (first|(with_reducible first|exact HB.out|apply zAB|apply zAA|apply zAE|refine zAF ?_ GE235.out|refine zAF ?_ GE236.out|refine zAF ?_ GE238.out)|exact HB.out)⟩⟩
       ·rw [if_neg c29] at H
        exact absurd H (by simp)
      ·rw [if_neg c28] at H
       have c28b0:decide (x8_1<(x239003_1.length:Int))=false:=decide_eq_false c28
       clear c28
       replace H:=Option.bind_eq_some_iff.mp H
       obtain ⟨t246,A370,H⟩:=H
       replace H:((zAL.f k1 a0_0 l0_1 a0_2 x236003_1 a1_0 l1_1 a1_2 l1_3).bind fun t247=>(if (t246 == t247)=true then ((tree_Same.f k1 a1_0 l1_1 a1_2 l1_3 a0_0 l0_1 a0_2 x236003_1).bind fun t248=>((tree_Same.f k1 a0_0 l0_1 a0_2 x236003_1 a1_0 l1_1 a1_2 l1_3).bind fun t249=>(if (t248 == t249)=true then ((tree_Same.f k1 a0_0 l0_1 a0_2 x236003_1 a0_0 l0_1 a0_2 x239003_1).bind fun t250=>(if t250=true then ((tree_Same.f k1 a0_0 l0_1 a0_2 x239003_1 a0_0 l0_1 a0_2 x236003_1).bind fun t251=>(some t251)) else (some false))) else (some false)))) else (some false)))=some r:=H
       have A37:=aK_ A370
       clear A370
       replace H:=Option.bind_eq_some_iff.mp H
       obtain ⟨t247,A380,H⟩:=H
       replace H:(if (t246 == t247)=true then ((tree_Same.f k1 a1_0 l1_1 a1_2 l1_3 a0_0 l0_1 a0_2 x236003_1).bind fun t248=>((tree_Same.f k1 a0_0 l0_1 a0_2 x236003_1 a1_0 l1_1 a1_2 l1_3).bind fun t249=>(if (t248 == t249)=true then ((tree_Same.f k1 a0_0 l0_1 a0_2 x236003_1 a0_0 l0_1 a0_2 x239003_1).bind fun t250=>(if t250=true then ((tree_Same.f k1 a0_0 l0_1 a0_2 x239003_1 a0_0 l0_1 a0_2 x236003_1).bind fun t251=>(some t251)) else (some false))) else (some false)))) else (some false))=some r:=H
       have A38:=aK_ A380
       clear A380
       by_cases c39:(t246 == t247)=true
       ·rw [if_pos c39] at H
        have c39b0:(t246 == t247)=true:=c39
        (try (have c39b1:decide (t246=t247)=true:=by simpa using c39))
        (try (have c39b2:(t246 == t247)=true:=by simpa using c39))
        clear c39
        replace H:=Option.bind_eq_some_iff.mp H
        obtain ⟨t248,A400,H⟩:=H
        replace H:((tree_Same.f k1 a0_0 l0_1 a0_2 x236003_1 a1_0 l1_1 a1_2 l1_3).bind fun t249=>(if (t248 == t249)=true then ((tree_Same.f k1 a0_0 l0_1 a0_2 x236003_1 a0_0 l0_1 a0_2 x239003_1).bind fun t250=>(if t250=true then ((tree_Same.f k1 a0_0 l0_1 a0_2 x239003_1 a0_0 l0_1 a0_2 x236003_1).bind fun t251=>(some t251)) else (some false))) else (some false)))=some r:=H
        have A40:=aK_ A400
        clear A400
        replace H:=Option.bind_eq_some_iff.mp H
        obtain ⟨t249,A410,H⟩:=H
        replace H:(if (t248 == t249)=true then ((tree_Same.f k1 a0_0 l0_1 a0_2 x236003_1 a0_0 l0_1 a0_2 x239003_1).bind fun t250=>(if t250=true then ((tree_Same.f k1 a0_0 l0_1 a0_2 x239003_1 a0_0 l0_1 a0_2 x236003_1).bind fun t251=>(some t251)) else (some false))) else (some false))=some r:=H
        have A41:=aK_ A410
        clear A410
        by_cases c42:(t248 == t249)=true
        ·rw [if_pos c42] at H
         have c42b0:(t248 == t249)=true:=c42
         (try (have c42b1:decide (t248=t249)=true:=by simpa using c42))
         (try (have c42b2:(t248 == t249)=true:=by simpa using c42))
         clear c42
         replace H:=Option.bind_eq_some_iff.mp H
         obtain ⟨t250,A430,H⟩:=H
         replace H:(if t250=true then ((tree_Same.f k1 a0_0 l0_1 a0_2 x239003_1 a0_0 l0_1 a0_2 x236003_1).bind fun t251=>(some t251)) else (some false))=some r:=H
         have A43:=aK_ A430
         clear A430
         by_cases c44:t250=true
         ·subst c44
          have H1:((tree_Same.f k1 a0_0 l0_1 a0_2 x239003_1 a0_0 l0_1 a0_2 x236003_1).bind fun t251=>(some t251))=some r:=by rw [if_pos rfl] at H;exact H
          clear H
          have H:=H1
          clear H1
          replace H:=Option.bind_eq_some_iff.mp H
          obtain ⟨t251,A450,H⟩:=H
          replace H:(some t251)=some r:=H
          have A45:=aK_ A450
          clear A450
          obtain rfl:=Option.some.inj H
          have hnb46:=NB238_235.out
          have hnc46:=NB235_238.out
          have hnb47:=NB238_236.out
          have hnc47:=NB236_238.out
          have hcz48_0:wr.cell? ⟨gb238,0,none⟩=some (.string a0_0):=(zAD BK238.out 0).trans rfl
          have hcz48_1:wr.cell? ⟨gb238,1,none⟩=some (.slice A0_1 l0_1.length c0_1):=(zAD BK238.out 1).trans rfl
          have hcz48_2:wr.cell? ⟨gb238,2,none⟩=some (.int .i64 a0_2):=(zAD BK238.out 2).trans rfl
          have hcz48_3:wr.cell? ⟨gb238,3,none⟩=some (u239003):=(zAD BK238.out 3).trans rfl
          have hfz48_0:=zAC BK238.out 0
          have hfz48_1:=zAC BK238.out 1
          have hfz48_2:=zAC BK238.out 2
          have hfz48_3:=zAC BK238.out 3
          obtain ⟨Ao49,co49,eo49⟩:=Kd.N_slice HO_239003.out
          subst eo49
          try go_wp2
          have n0_:=aK_ (Kd.V_drew HO_236003.out)
          have n1_:=aK_ (Kd.N_drew HO_239003.out)
          have n2_:=aK_ (zAI BK235.out)
          have n3_:=aK_ (zAI BK236.out)
          have n4_:=aK_ (zAI BK238.out)
          have n5_:=aK_ (zAE HB.out)
          clear HO_236003
          clear HO_239003
          clear BK235
          clear BK236
          clear BK238
          clear HB
          have HO_236003:=n0_
          have HO_239003:=n1_
          have BK235:=n2_
          have BK236:=n3_
          have BK238:=n4_
          have HB:=n5_
          clear n0_ n1_ n2_ n3_ n4_ n5_
          obtain ⟨Ao51,co51,eo51⟩:=Kd.V_slice HO_236003.out
          (first|subst eo51|(injection eo51 with f1_ f2_ f3_;have f4_:=f1_.symm;have f5_:=f3_.symm;clear f1_ f2_ f3_;subst f4_;subst f5_))
          refine start_ (n:=27) (S:=fun w'=>w'.cell? ⟨gb235,0,none⟩=some (.string a0_0)∧w'.cell? ⟨gb235,1,none⟩=some (.slice A0_1 l0_1.length c0_1)∧w'.cell? ⟨gb235,2,none⟩=some (.int .i64 a0_2)∧w'.cell? ⟨gb235,3,none⟩=some (.slice Ao51 x236003_1.length co51)∧w'.cell? ⟨gb236,0,none⟩=some (.string a1_0)∧w'.cell? ⟨gb236,1,none⟩=some (.slice A1_1 l1_1.length c1_1)∧w'.cell? ⟨gb236,2,none⟩=some (.int .i64 a1_2)∧w'.cell? ⟨gb236,3,none⟩=some (.slice A1_3 l1_3.length c1_3)∧w'.cell? ⟨gb238,0,none⟩=some (.string a0_0)∧w'.cell? ⟨gb238,1,none⟩=some (.slice A0_1 l0_1.length c0_1)∧w'.cell? ⟨gb238,2,none⟩=some (.int .i64 a0_2)∧w'.cell? ⟨gb238,3,none⟩=some (.slice Ao49 x239003_1.length co49)) (ds:=[]) #[false,false,false,false,false,false,false,false,false,false,false,false,false,false,false,false,false,false,false,false,false,false,false,false,false,false,false] (by kernel_rfl) rfl rfl ⟨(zAD BK235.out 0).trans rfl,(zAD BK235.out 1).trans rfl,(zAD BK235.out 2).trans rfl,(zAD BK235.out 3).trans rfl,(zAD BK236.out 0).trans rfl,(zAD BK236.out 1).trans rfl,(zAD BK236.out 2).trans rfl,(zAD BK236.out 3).trans rfl,(zAD BK238.out 0).trans rfl,(zAD BK238.out 1).trans rfl,(zAD BK238.out 2).trans rfl,(zAD BK238.out 3).trans rfl⟩ (fun hHeld=>?_);refine with_tabW zAW.tab11 zAW.bits11 (fun HT_ HW_=>?_)
          generalize wr.drew=w50 at HO_236003 HO_239003 BK235 BK236 BK238 HB hHeld ⊢
          refine take_ (i:=0) (N:=some 34) (v:=?_) (a':=?_) #[true,false,false,false,false,false,false,false,false,false,false,false,false,false,false,false,false,false,false,false,false,false,false,false,false,false,false] rfl rfl (take_ofW HT_.out HW_.out (by kernel_rfl)) (fun _ _ _ h=>h) (Or.inl ⟨by rfl,?_⟩) hHeld ?_ ?_
          rotate_left
          ·rintro w' ⟨s0,s1,s2,s3,s4,s5,s6,s7,s8,s9,s10,s11⟩
           go_simp
           with_reducible rfl
          rotate_left
          ·simp only [Act.put,List.setIfInBounds_toArray,List.set_cons_zero,List.set_cons_succ,i64_w,i32_w]
           rfl
          refine take_ (i:=1) (N:=some 35) (v:=?_) (a':=?_) #[true,true,false,false,false,false,false,false,false,false,false,false,false,false,false,false,false,false,false,false,false,false,false,false,false,false,false] rfl rfl (take_ofW HT_.out HW_.out (by kernel_rfl)) (fun _ _ _ h=>h) (Or.inl ⟨by rfl,?_⟩) hHeld ?_ ?_
          rotate_left
          ·rintro w' ⟨s0,s1,s2,s3,s4,s5,s6,s7,s8,s9,s10,s11⟩
           go_simp
           with_reducible rfl
          rotate_left
          ·simp only [Act.put,List.setIfInBounds_toArray,List.set_cons_zero,List.set_cons_succ,i64_w,i32_w]
           rfl
          refine take_ (i:=3) (N:=some 37) (v:=?_) (a':=?_) #[true,true,false,true,false,false,false,false,false,false,false,false,false,false,false,false,false,false,false,false,false,false,false,false,false,false,false] rfl rfl (take_ofW HT_.out HW_.out (by kernel_rfl)) (fun _ _ _ h=>h) (Or.inl ⟨by rfl,?_⟩) hHeld ?_ ?_
          rotate_left
          ·rintro w' ⟨s0,s1,s2,s3,s4,s5,s6,s7,s8,s9,s10,s11⟩
           go_simp
           with_reducible rfl
          rotate_left
          ·simp only [Act.put,List.setIfInBounds_toArray,List.set_cons_zero,List.set_cons_succ,i64_w,i32_w]
           rfl
          refine take_ (i:=4) (N:=some 38) (v:=?_) (a':=?_) #[true,true,false,true,true,false,false,false,false,false,false,false,false,false,false,false,false,false,false,false,false,false,false,false,false,false,false] rfl rfl (take_ofW HT_.out HW_.out (by kernel_rfl)) (fun _ _ _ h=>h) (Or.inl ⟨by rfl,?_⟩) hHeld ?_ ?_
          rotate_left
          ·rintro w' ⟨s0,s1,s2,s3,s4,s5,s6,s7,s8,s9,s10,s11⟩
           go_simp
           with_reducible rfl
          rotate_left
          ·simp only [Act.put,List.setIfInBounds_toArray,List.set_cons_zero,List.set_cons_succ,i64_w,i32_w]
           rfl
          refine one_ (i:=2) (N:=some 36) #[true,true,true,true,true,false,false,false,false,false,false,false,false,false,false,false,false,false,false,false,false,false,false,false,false,false,false] rfl rfl (one_of HT_.out (by kernel_rfl)) (by decide) (fun K hK=>?_)
          refine goes_ Tryd.func18 (by kernel_rfl) rfl #[.agg #[.string a0_0,.slice A0_1 l0_1.length c0_1,.int .i64 a0_2,.slice Ao51 x236003_1.length co51],.agg #[.string a1_0,.slice A1_1 l1_1.length c1_1,.int .i64 a1_2,.slice A1_3 l1_3.length c1_3]] (by rfl) rfl rfl (by (try simp only [List.map_toArray,List.map_cons,List.map_nil]);first|done|rfl|(simp only [List.length_drop,List.length_take];rfl)) ?_
          with_reducible refine (tree_Same.calls k1 a0_0 _ _ l0_1 a0_2 _ _ x236003_1 a1_0 _ _ l1_1 a1_2 _ _ l1_3 t246 _ ?side1 ?side2 ?side3 ?side4 ?side5 ?side6 ?side7 ?side8 A37.out).mono ?_
          (case side1=>repeat (first|exact (Kd.C_below HR0_1.out HB.out)|(with_reducible refine Kd.C_alloc ?_ _)|(with_reducible refine Kd.C_drewN ?_ _)|(with_reducible refine Kd.C_drew ?_)))
          (case side2=>exact HC0_1.out)
          (case side3=>repeat (first|exact (Kd.V_reads' HO_236003.out).2.2|(with_reducible refine Kd.C_alloc ?_ _)|(with_reducible refine Kd.C_drewN ?_ _)|(with_reducible refine Kd.C_drew ?_)))
          (case side4=>exact (Kd.V_reads' HO_236003.out).2.1)
          (case side5=>repeat (first|exact (Kd.C_below HR1_1.out HB.out)|(with_reducible refine Kd.C_alloc ?_ _)|(with_reducible refine Kd.C_drewN ?_ _)|(with_reducible refine Kd.C_drew ?_)))
          (case side6=>exact HC1_1.out)
          (case side7=>repeat (first|exact (Kd.C_below HR1_3.out HB.out)|(with_reducible refine Kd.C_alloc ?_ _)|(with_reducible refine Kd.C_drewN ?_ _)|(with_reducible refine Kd.C_drew ?_)))
          (case side8=>exact HC1_3.out)
          rintro e w52 ⟨rfl,hb⟩
          refine ⟨_,rfl,?_⟩
          have n0_:=aK_ (Kd.V_below (by (with_reducible repeat (first|apply Kd.V_alloc|apply Kd.V_drewN|apply Kd.V_drew));exact HO_236003.out) hb)
          have n1_:=aK_ (Kd.N_below (by (with_reducible repeat (first|apply Kd.N_alloc|apply Kd.N_drewN|apply Kd.N_drew));exact HO_239003.out) hb)
          have n2_:=aK_ (zAV (g:=gb235) (o:=.cells #[.string a0_0,.slice A0_1 l0_1.length c0_1,.int .i64 a0_2,.slice Ao51 x236003_1.length co51] 25 (0,0)) (by (with_reducible repeat (first|refine zAG ?_ _|refine zAI ?_|refine zAH ?_ _));exact BK235.out) hb)
          have n3_:=aK_ (zAV (g:=gb236) (o:=.cells #[.string a1_0,.slice A1_1 l1_1.length c1_1,.int .i64 a1_2,.slice A1_3 l1_3.length c1_3] 25 (0,0)) (by (with_reducible repeat (first|refine zAG ?_ _|refine zAI ?_|refine zAH ?_ _));exact BK236.out) hb)
          have n4_:=aK_ (zAV (g:=gb238) (o:=.cells #[.string a0_0,.slice A0_1 l0_1.length c0_1,.int .i64 a0_2,.slice Ao49 x239003_1.length co49] 25 (0,0)) (by (with_reducible repeat (first|refine zAG ?_ _|refine zAI ?_|refine zAH ?_ _));exact BK238.out) hb)
          have n5_:=aK_ (zAN (by repeat (first|(with_reducible first|exact HB.out|apply zAB|apply zAA|apply zAE|refine zAF ?_ GE235.out|refine zAF ?_ GE236.out|refine zAF ?_ GE238.out)|exact HB.out)) hb)
          clear HO_236003
          clear HO_239003
          clear BK235
          clear BK236
          clear BK238
          clear HB
          have HO_236003:=n0_
          have HO_239003:=n1_
          have BK235:=n2_
          have BK236:=n3_
          have BK238:=n4_
          have HB:=n5_
          clear n0_ n1_ n2_ n3_ n4_ n5_
          (try clear hb)
          (try clear hb2)
          (try clear hk)
          (try clear hi)
          refine hK.out _ _ ⟨(zAD BK235.out 0).trans rfl,(zAD BK235.out 1).trans rfl,(zAD BK235.out 2).trans rfl,(zAD BK235.out 3).trans rfl,(zAD BK236.out 0).trans rfl,(zAD BK236.out 1).trans rfl,(zAD BK236.out 2).trans rfl,(zAD BK236.out 3).trans rfl,(zAD BK238.out 0).trans rfl,(zAD BK238.out 1).trans rfl,(zAD BK238.out 2).trans rfl,(zAD BK238.out 3).trans rfl⟩ (fun hHeld=>?_)
          clear hK K
          refine norm_ (a':=?_) ?_ ?_
          rotate_left
          ·show Act.put _ (some 36) _=_
           simp only [Act.put,List.setIfInBounds_toArray,List.set_cons_zero,List.set_cons_succ,i64_w,i32_w]
           rfl
          refine one_ (i:=5) (N:=some 39) #[true,true,true,true,true,true,false,false,false,false,false,false,false,false,false,false,false,false,false,false,false,false,false,false,false,false,false] rfl rfl (one_of HT_.out (by kernel_rfl)) (by decide) (fun K hK=>?_)
          refine goes_ Tryd.func19 (by kernel_rfl) rfl #[.agg #[.string a0_0,.slice A0_1 l0_1.length c0_1,.int .i64 a0_2,.slice Ao51 x236003_1.length co51],.agg #[.string a1_0,.slice A1_1 l1_1.length c1_1,.int .i64 a1_2,.slice A1_3 l1_3.length c1_3]] (by rfl) rfl rfl (by (try simp only [List.map_toArray,List.map_cons,List.map_nil]);first|done|rfl|(simp only [List.length_drop,List.length_take];rfl)) ?_
          with_reducible refine (zAL.calls k1 a0_0 _ _ l0_1 a0_2 _ _ x236003_1 a1_0 _ _ l1_1 a1_2 _ _ l1_3 t247 _ ?side1 ?side2 ?side3 ?side4 ?side5 ?side6 ?side7 ?side8 A38.out).mono ?_
          (case side1=>repeat (first|exact (Kd.C_below HR0_1.out HB.out)|(with_reducible refine Kd.C_alloc ?_ _)|(with_reducible refine Kd.C_drewN ?_ _)|(with_reducible refine Kd.C_drew ?_)))
          (case side2=>exact HC0_1.out)
          (case side3=>repeat (first|exact (Kd.V_reads' HO_236003.out).2.2|(with_reducible refine Kd.C_alloc ?_ _)|(with_reducible refine Kd.C_drewN ?_ _)|(with_reducible refine Kd.C_drew ?_)))
          (case side4=>exact (Kd.V_reads' HO_236003.out).2.1)
          (case side5=>repeat (first|exact (Kd.C_below HR1_1.out HB.out)|(with_reducible refine Kd.C_alloc ?_ _)|(with_reducible refine Kd.C_drewN ?_ _)|(with_reducible refine Kd.C_drew ?_)))
          (case side6=>exact HC1_1.out)
          (case side7=>repeat (first|exact (Kd.C_below HR1_3.out HB.out)|(with_reducible refine Kd.C_alloc ?_ _)|(with_reducible refine Kd.C_drewN ?_ _)|(with_reducible refine Kd.C_drew ?_)))
          (case side8=>exact HC1_3.out)
          rintro e w53 ⟨rfl,hb⟩
          refine ⟨_,rfl,?_⟩
          have n0_:=aK_ (Kd.V_below (by (with_reducible repeat (first|apply Kd.V_alloc|apply Kd.V_drewN|apply Kd.V_drew));exact HO_236003.out) hb)
          have n1_:=aK_ (Kd.N_below (by (with_reducible repeat (first|apply Kd.N_alloc|apply Kd.N_drewN|apply Kd.N_drew));exact HO_239003.out) hb)
          have n2_:=aK_ (zAV (g:=gb235) (o:=.cells #[.string a0_0,.slice A0_1 l0_1.length c0_1,.int .i64 a0_2,.slice Ao51 x236003_1.length co51] 25 (0,0)) (by (with_reducible repeat (first|refine zAG ?_ _|refine zAI ?_|refine zAH ?_ _));exact BK235.out) hb)
          have n3_:=aK_ (zAV (g:=gb236) (o:=.cells #[.string a1_0,.slice A1_1 l1_1.length c1_1,.int .i64 a1_2,.slice A1_3 l1_3.length c1_3] 25 (0,0)) (by (with_reducible repeat (first|refine zAG ?_ _|refine zAI ?_|refine zAH ?_ _));exact BK236.out) hb)
          have n4_:=aK_ (zAV (g:=gb238) (o:=.cells #[.string a0_0,.slice A0_1 l0_1.length c0_1,.int .i64 a0_2,.slice Ao49 x239003_1.length co49] 25 (0,0)) (by (with_reducible repeat (first|refine zAG ?_ _|refine zAI ?_|refine zAH ?_ _));exact BK238.out) hb)
          have n5_:=aK_ (zAN (by repeat (first|(with_reducible first|exact HB.out|apply zAB|apply zAA|apply zAE|refine zAF ?_ GE235.out|refine zAF ?_ GE236.out|refine zAF ?_ GE238.out)|exact HB.out)) hb)
          clear HO_236003
          clear HO_239003
          clear BK235
          clear BK236
          clear BK238
          clear HB
          have HO_236003:=n0_
          have HO_239003:=n1_
          have BK235:=n2_
          have BK236:=n3_
          have BK238:=n4_
          have HB:=n5_
          clear n0_ n1_ n2_ n3_ n4_ n5_
          (try clear hb)
          (try clear hb2)
          (try clear hk)
          (try clear hi)
          refine hK.out _ _ ⟨(zAD BK235.out 0).trans rfl,(zAD BK235.out 1).trans rfl,(zAD BK235.out 2).trans rfl,(zAD BK235.out 3).trans rfl,(zAD BK236.out 0).trans rfl,(zAD BK236.out 1).trans rfl,(zAD BK236.out 2).trans rfl,(zAD BK236.out 3).trans rfl,(zAD BK238.out 0).trans rfl,(zAD BK238.out 1).trans rfl,(zAD BK238.out 2).trans rfl,(zAD BK238.out 3).trans rfl⟩ (fun hHeld=>?_)
          clear hK K
          refine norm_ (a':=?_) ?_ ?_
          rotate_left
          ·show Act.put _ (some 39) _=_
           simp only [Act.put,List.setIfInBounds_toArray,List.set_cons_zero,List.set_cons_succ,i64_w,i32_w]
           rfl
          refine pure_ (i:=6) (N:=some 40) (v:=?_) (a':=?_) #[true,true,true,true,true,true,true,false,false,false,false,false,false,false,false,false,false,false,false,false,false,false,false,false,false,false,false] rfl rfl (any_of HT_.out (by kernel_rfl)) (fun _ _ _ h=>h) (Or.inl ⟨by rfl,?_⟩) ?_ ?_
          rotate_left
          ·intro w'
           go_simp
           with_reducible rfl
          rotate_left
          ·simp only [Act.put,List.setIfInBounds_toArray,List.set_cons_zero,List.set_cons_succ,i64_w,i32_w]
           rfl
          refine pure_ (i:=7) (N:=some 41) (v:=?_) (a':=?_) #[true,true,true,true,true,true,true,true,false,false,false,false,false,false,false,false,false,false,false,false,false,false,false,false,false,false,false] rfl rfl (any_of HT_.out (by kernel_rfl)) (fun _ _ _ h=>h) (Or.inl ⟨by rfl,?_⟩) ?_ ?_
          rotate_left
          ·intro w'
           go_simp
           with_reducible rfl
          rotate_left
          ·simp only [Act.put,List.setIfInBounds_toArray,List.set_cons_zero,List.set_cons_succ,i64_w,i32_w]
           rfl
          refine take_ (i:=8) (N:=some 42) (v:=?_) (a':=?_) #[true,true,true,true,true,true,true,true,true,false,false,false,false,false,false,false,false,false,false,false,false,false,false,false,false,false,false] rfl rfl (take_ofW HT_.out HW_.out (by kernel_rfl)) (fun _ _ _ h=>h) (Or.inl ⟨by rfl,?_⟩) hHeld ?_ ?_
          rotate_left
          ·rintro w' ⟨s0,s1,s2,s3,s4,s5,s6,s7,s8,s9,s10,s11⟩
           go_simp
           with_reducible rfl
          rotate_left
          ·simp only [Act.put,List.setIfInBounds_toArray,List.set_cons_zero,List.set_cons_succ,i64_w,i32_w]
           rfl
          refine take_ (i:=9) (N:=some 43) (v:=?_) (a':=?_) #[true,true,true,true,true,true,true,true,true,true,false,false,false,false,false,false,false,false,false,false,false,false,false,false,false,false,false] rfl rfl (take_ofW HT_.out HW_.out (by kernel_rfl)) (fun _ _ _ h=>h) (Or.inl ⟨by rfl,?_⟩) hHeld ?_ ?_
          rotate_left
          ·rintro w' ⟨s0,s1,s2,s3,s4,s5,s6,s7,s8,s9,s10,s11⟩
           go_simp
           with_reducible rfl
          rotate_left
          ·simp only [Act.put,List.setIfInBounds_toArray,List.set_cons_zero,List.set_cons_succ,i64_w,i32_w]
           rfl
          refine take_ (i:=11) (N:=some 45) (v:=?_) (a':=?_) #[true,true,true,true,true,true,true,true,true,true,false,true,false,false,false,false,false,false,false,false,false,false,false,false,false,false,false] rfl rfl (take_ofW HT_.out HW_.out (by kernel_rfl)) (fun _ _ _ h=>h) (Or.inl ⟨by rfl,?_⟩) hHeld ?_ ?_
          rotate_left
          ·rintro w' ⟨s0,s1,s2,s3,s4,s5,s6,s7,s8,s9,s10,s11⟩
           go_simp
           with_reducible rfl
          rotate_left
          ·simp only [Act.put,List.setIfInBounds_toArray,List.set_cons_zero,List.set_cons_succ,i64_w,i32_w]
           rfl
          refine take_ (i:=12) (N:=some 46) (v:=?_) (a':=?_) #[true,true,true,true,true,true,true,true,true,true,false,true,true,false,false,false,false,false,false,false,false,false,false,false,false,false,false] rfl rfl (take_ofW HT_.out HW_.out (by kernel_rfl)) (fun _ _ _ h=>h) (Or.inl ⟨by rfl,?_⟩) hHeld ?_ ?_
          rotate_left
          ·rintro w' ⟨s0,s1,s2,s3,s4,s5,s6,s7,s8,s9,s10,s11⟩
           go_simp
           with_reducible rfl
          rotate_left
          ·simp only [Act.put,List.setIfInBounds_toArray,List.set_cons_zero,List.set_cons_succ,i64_w,i32_w]
           rfl
          refine one_ (i:=10) (N:=some 44) #[true,true,true,true,true,true,true,true,true,true,true,true,true,false,false,false,false,false,false,false,false,false,false,false,false,false,false] rfl rfl (one_of HT_.out (by kernel_rfl)) (by decide) (fun K hK=>?_)
          refine goes_ Tryd.func18 (by kernel_rfl) rfl #[.agg #[.string a1_0,.slice A1_1 l1_1.length c1_1,.int .i64 a1_2,.slice A1_3 l1_3.length c1_3],.agg #[.string a0_0,.slice A0_1 l0_1.length c0_1,.int .i64 a0_2,.slice Ao51 x236003_1.length co51]] (by rfl) rfl rfl (by (try simp only [List.map_toArray,List.map_cons,List.map_nil]);first|done|rfl|(simp only [List.length_drop,List.length_take];rfl)) ?_
          with_reducible refine (tree_Same.calls k1 a1_0 _ _ l1_1 a1_2 _ _ l1_3 a0_0 _ _ l0_1 a0_2 _ _ x236003_1 t248 _ ?side1 ?side2 ?side3 ?side4 ?side5 ?side6 ?side7 ?side8 A40.out).mono ?_
          (case side1=>repeat (first|exact (Kd.C_below HR1_1.out HB.out)|(with_reducible refine Kd.C_alloc ?_ _)|(with_reducible refine Kd.C_drewN ?_ _)|(with_reducible refine Kd.C_drew ?_)))
          (case side2=>exact HC1_1.out)
          (case side3=>repeat (first|exact (Kd.C_below HR1_3.out HB.out)|(with_reducible refine Kd.C_alloc ?_ _)|(with_reducible refine Kd.C_drewN ?_ _)|(with_reducible refine Kd.C_drew ?_)))
          (case side4=>exact HC1_3.out)
          (case side5=>repeat (first|exact (Kd.C_below HR0_1.out HB.out)|(with_reducible refine Kd.C_alloc ?_ _)|(with_reducible refine Kd.C_drewN ?_ _)|(with_reducible refine Kd.C_drew ?_)))
          (case side6=>exact HC0_1.out)
          (case side7=>repeat (first|exact (Kd.V_reads' HO_236003.out).2.2|(with_reducible refine Kd.C_alloc ?_ _)|(with_reducible refine Kd.C_drewN ?_ _)|(with_reducible refine Kd.C_drew ?_)))
          (case side8=>exact (Kd.V_reads' HO_236003.out).2.1)
          rintro e w54 ⟨rfl,hb⟩
          refine ⟨_,rfl,?_⟩
          have n0_:=aK_ (Kd.V_below (by (with_reducible repeat (first|apply Kd.V_alloc|apply Kd.V_drewN|apply Kd.V_drew));exact HO_236003.out) hb)
          have n1_:=aK_ (Kd.N_below (by (with_reducible repeat (first|apply Kd.N_alloc|apply Kd.N_drewN|apply Kd.N_drew));exact HO_239003.out) hb)
          have n2_:=aK_ (zAV (g:=gb235) (o:=.cells #[.string a0_0,.slice A0_1 l0_1.length c0_1,.int .i64 a0_2,.slice Ao51 x236003_1.length co51] 25 (0,0)) (by (with_reducible repeat (first|refine zAG ?_ _|refine zAI ?_|refine zAH ?_ _));exact BK235.out) hb)
          have n3_:=aK_ (zAV (g:=gb236) (o:=.cells #[.string a1_0,.slice A1_1 l1_1.length c1_1,.int .i64 a1_2,.slice A1_3 l1_3.length c1_3] 25 (0,0)) (by (with_reducible repeat (first|refine zAG ?_ _|refine zAI ?_|refine zAH ?_ _));exact BK236.out) hb)
          have n4_:=aK_ (zAV (g:=gb238) (o:=.cells #[.string a0_0,.slice A0_1 l0_1.length c0_1,.int .i64 a0_2,.slice Ao49 x239003_1.length co49] 25 (0,0)) (by (with_reducible repeat (first|refine zAG ?_ _|refine zAI ?_|refine zAH ?_ _));exact BK238.out) hb)
          have n5_:=aK_ (zAN (by repeat (first|(with_reducible first|exact HB.out|apply zAB|apply zAA|apply zAE|refine zAF ?_ GE235.out|refine zAF ?_ GE236.out|refine zAF ?_ GE238.out)|exact HB.out)) hb)
          clear HO_236003
          clear HO_239003
          clear BK235
          clear BK236
          clear BK238
          clear HB
          have HO_236003:=n0_
          have HO_239003:=n1_
          have BK235:=n2_
          have BK236:=n3_
          have BK238:=n4_
          have HB:=n5_
          clear n0_ n1_ n2_ n3_ n4_ n5_
          (try clear hb)
          (try clear hb2)
          (try clear hk)
          (try clear hi)
          refine hK.out _ _ ⟨(zAD BK235.out 0).trans rfl,(zAD BK235.out 1).trans rfl,(zAD BK235.out 2).trans rfl,(zAD BK235.out 3).trans rfl,(zAD BK236.out 0).trans rfl,(zAD BK236.out 1).trans rfl,(zAD BK236.out 2).trans rfl,(zAD BK236.out 3).trans rfl,(zAD BK238.out 0).trans rfl,(zAD BK238.out 1).trans rfl,(zAD BK238.out 2).trans rfl,(zAD BK238.out 3).trans rfl⟩ (fun hHeld=>?_)
          clear hK K
          refine norm_ (a':=?_) ?_ ?_
          rotate_left
          ·show Act.put _ (some 44) _=_
           simp only [Act.put,List.setIfInBounds_toArray,List.set_cons_zero,List.set_cons_succ,i64_w,i32_w]
           rfl
          refine one_ (i:=13) (N:=some 47) #[true,true,true,true,true,true,true,true,true,true,true,true,true,true,false,false,false,false,false,false,false,false,false,false,false,false,false] rfl rfl (one_of HT_.out (by kernel_rfl)) (by decide) (fun K hK=>?_)
          refine goes_ Tryd.func18 (by kernel_rfl) rfl #[.agg #[.string a0_0,.slice A0_1 l0_1.length c0_1,.int .i64 a0_2,.slice Ao51 x236003_1.length co51],.agg #[.string a1_0,.slice A1_1 l1_1.length c1_1,.int .i64 a1_2,.slice A1_3 l1_3.length c1_3]] (by rfl) rfl rfl (by (try simp only [List.map_toArray,List.map_cons,List.map_nil]);first|done|rfl|(simp only [List.length_drop,List.length_take];rfl)) ?_
          with_reducible refine (tree_Same.calls k1 a0_0 _ _ l0_1 a0_2 _ _ x236003_1 a1_0 _ _ l1_1 a1_2 _ _ l1_3 t249 _ ?side1 ?side2 ?side3 ?side4 ?side5 ?side6 ?side7 ?side8 A41.out).mono ?_
          (case side1=>repeat (first|exact (Kd.C_below HR0_1.out HB.out)|(with_reducible refine Kd.C_alloc ?_ _)|(with_reducible refine Kd.C_drewN ?_ _)|(with_reducible refine Kd.C_drew ?_)))
          (case side2=>exact HC0_1.out)
          (case side3=>repeat (first|exact (Kd.V_reads' HO_236003.out).2.2|(with_reducible refine Kd.C_alloc ?_ _)|(with_reducible refine Kd.C_drewN ?_ _)|(with_reducible refine Kd.C_drew ?_)))
          (case side4=>exact (Kd.V_reads' HO_236003.out).2.1)
          (case side5=>repeat (first|exact (Kd.C_below HR1_1.out HB.out)|(with_reducible refine Kd.C_alloc ?_ _)|(with_reducible refine Kd.C_drewN ?_ _)|(with_reducible refine Kd.C_drew ?_)))
          (case side6=>exact HC1_1.out)
          (case side7=>repeat (first|exact (Kd.C_below HR1_3.out HB.out)|(with_reducible refine Kd.C_alloc ?_ _)|(with_reducible refine Kd.C_drewN ?_ _)|(with_reducible refine Kd.C_drew ?_)))
          (case side8=>exact HC1_3.out)
          rintro e w55 ⟨rfl,hb⟩
          refine ⟨_,rfl,?_⟩
          have n0_:=aK_ (Kd.V_below (by (with_reducible repeat (first|apply Kd.V_alloc|apply Kd.V_drewN|apply Kd.V_drew));exact HO_236003.out) hb)
          have n1_:=aK_ (Kd.N_below (by (with_reducible repeat (first|apply Kd.N_alloc|apply Kd.N_drewN|apply Kd.N_drew));exact HO_239003.out) hb)
          have n2_:=aK_ (zAV (g:=gb235) (o:=.cells #[.string a0_0,.slice A0_1 l0_1.length c0_1,.int .i64 a0_2,.slice Ao51 x236003_1.length co51] 25 (0,0)) (by (with_reducible repeat (first|refine zAG ?_ _|refine zAI ?_|refine zAH ?_ _));exact BK235.out) hb)
          have n3_:=aK_ (zAV (g:=gb236) (o:=.cells #[.string a1_0,.slice A1_1 l1_1.length c1_1,.int .i64 a1_2,.slice A1_3 l1_3.length c1_3] 25 (0,0)) (by (with_reducible repeat (first|refine zAG ?_ _|refine zAI ?_|refine zAH ?_ _));exact BK236.out) hb)
          have n4_:=aK_ (zAV (g:=gb238) (o:=.cells #[.string a0_0,.slice A0_1 l0_1.length c0_1,.int .i64 a0_2,.slice Ao49 x239003_1.length co49] 25 (0,0)) (by (with_reducible repeat (first|refine zAG ?_ _|refine zAI ?_|refine zAH ?_ _));exact BK238.out) hb)
          have n5_:=aK_ (zAN (by repeat (first|(with_reducible first|exact HB.out|apply zAB|apply zAA|apply zAE|refine zAF ?_ GE235.out|refine zAF ?_ GE236.out|refine zAF ?_ GE238.out)|exact HB.out)) hb)
          clear HO_236003
          clear HO_239003
          clear BK235
          clear BK236
          clear BK238
          clear HB
          have HO_236003:=n0_
          have HO_239003:=n1_
          have BK235:=n2_
          have BK236:=n3_
          have BK238:=n4_
          have HB:=n5_
          clear n0_ n1_ n2_ n3_ n4_ n5_
          (try clear hb)
          (try clear hb2)
          (try clear hk)
          (try clear hi)
          refine hK.out _ _ ⟨(zAD BK235.out 0).trans rfl,(zAD BK235.out 1).trans rfl,(zAD BK235.out 2).trans rfl,(zAD BK235.out 3).trans rfl,(zAD BK236.out 0).trans rfl,(zAD BK236.out 1).trans rfl,(zAD BK236.out 2).trans rfl,(zAD BK236.out 3).trans rfl,(zAD BK238.out 0).trans rfl,(zAD BK238.out 1).trans rfl,(zAD BK238.out 2).trans rfl,(zAD BK238.out 3).trans rfl⟩ (fun hHeld=>?_)
          clear hK K
          refine norm_ (a':=?_) ?_ ?_
          rotate_left
          ·show Act.put _ (some 47) _=_
           simp only [Act.put,List.setIfInBounds_toArray,List.set_cons_zero,List.set_cons_succ,i64_w,i32_w]
           rfl
          refine pure_ (i:=14) (N:=some 48) (v:=?_) (a':=?_) #[true,true,true,true,true,true,true,true,true,true,true,true,true,true,true,false,false,false,false,false,false,false,false,false,false,false,false] rfl rfl (any_of HT_.out (by kernel_rfl)) (fun _ _ _ h=>h) (Or.inl ⟨by rfl,?_⟩) ?_ ?_
          rotate_left
          ·intro w'
           go_simp
           with_reducible rfl
          rotate_left
          ·simp only [Act.put,List.setIfInBounds_toArray,List.set_cons_zero,List.set_cons_succ,i64_w,i32_w]
           rfl
          refine pure_ (i:=15) (N:=some 49) (v:=?_) (a':=?_) #[true,true,true,true,true,true,true,true,true,true,true,true,true,true,true,true,false,false,false,false,false,false,false,false,false,false,false] rfl rfl (any_of HT_.out (by kernel_rfl)) (fun _ _ _ h=>h) (Or.inl ⟨by rfl,?_⟩) ?_ ?_
          rotate_left
          ·intro w'
           go_simp
           with_reducible rfl
          rotate_left
          ·simp only [Act.put,List.setIfInBounds_toArray,List.set_cons_zero,List.set_cons_succ,i64_w,i32_w]
           rfl
          refine pure_ (i:=16) (N:=some 50) (v:=?_) (a':=?_) #[true,true,true,true,true,true,true,true,true,true,true,true,true,true,true,true,true,false,false,false,false,false,false,false,false,false,false] rfl rfl (any_of HT_.out (by kernel_rfl)) (fun _ _ _ h=>h) (Or.inl ⟨by rfl,?_⟩) ?_ ?_
          rotate_left
          ·intro w'
           go_simp
           with_reducible rfl
          rotate_left
          ·simp only [Act.put,List.setIfInBounds_toArray,List.set_cons_zero,List.set_cons_succ,i64_w,i32_w]
           rfl
          refine take_ (i:=17) (N:=some 51) (v:=?_) (a':=?_) #[true,true,true,true,true,true,true,true,true,true,true,true,true,true,true,true,true,true,false,false,false,false,false,false,false,false,false] rfl rfl (take_ofW HT_.out HW_.out (by kernel_rfl)) (fun _ _ _ h=>h) (Or.inl ⟨by rfl,?_⟩) hHeld ?_ ?_
          rotate_left
          ·rintro w' ⟨s0,s1,s2,s3,s4,s5,s6,s7,s8,s9,s10,s11⟩
           go_simp
           with_reducible rfl
          rotate_left
          ·simp only [Act.put,List.setIfInBounds_toArray,List.set_cons_zero,List.set_cons_succ,i64_w,i32_w]
           rfl
          refine take_ (i:=18) (N:=some 52) (v:=?_) (a':=?_) #[true,true,true,true,true,true,true,true,true,true,true,true,true,true,true,true,true,true,true,false,false,false,false,false,false,false,false] rfl rfl (take_ofW HT_.out HW_.out (by kernel_rfl)) (fun _ _ _ h=>h) (Or.inl ⟨by rfl,?_⟩) hHeld ?_ ?_
          rotate_left
          ·rintro w' ⟨s0,s1,s2,s3,s4,s5,s6,s7,s8,s9,s10,s11⟩
           go_simp
           with_reducible rfl
          rotate_left
          ·simp only [Act.put,List.setIfInBounds_toArray,List.set_cons_zero,List.set_cons_succ,i64_w,i32_w]
           rfl
          refine one_ (i:=19) (N:=some 53) #[true,true,true,true,true,true,true,true,true,true,true,true,true,true,true,true,true,true,true,true,false,false,false,false,false,false,false] rfl rfl (one_of HT_.out (by kernel_rfl)) (by decide) (fun K hK=>?_)
          refine goes_ Tryd.func18 (by kernel_rfl) rfl #[.agg #[.string a0_0,.slice A0_1 l0_1.length c0_1,.int .i64 a0_2,.slice Ao51 x236003_1.length co51],.agg #[.string a0_0,.slice A0_1 l0_1.length c0_1,.int .i64 a0_2,.slice Ao49 x239003_1.length co49]] (by rfl) rfl rfl (by (try simp only [List.map_toArray,List.map_cons,List.map_nil]);first|done|rfl|(simp only [List.length_drop,List.length_take];rfl)) ?_
          with_reducible refine (tree_Same.calls k1 a0_0 _ _ l0_1 a0_2 _ _ x236003_1 a0_0 _ _ l0_1 a0_2 _ _ x239003_1 true _ ?side1 ?side2 ?side3 ?side4 ?side5 ?side6 ?side7 ?side8 A43.out).mono ?_
          (case side1=>repeat (first|exact (Kd.C_below HR0_1.out HB.out)|(with_reducible refine Kd.C_alloc ?_ _)|(with_reducible refine Kd.C_drewN ?_ _)|(with_reducible refine Kd.C_drew ?_)))
          (case side2=>exact HC0_1.out)
          (case side3=>repeat (first|exact (Kd.V_reads' HO_236003.out).2.2|(with_reducible refine Kd.C_alloc ?_ _)|(with_reducible refine Kd.C_drewN ?_ _)|(with_reducible refine Kd.C_drew ?_)))
          (case side4=>exact (Kd.V_reads' HO_236003.out).2.1)
          (case side5=>repeat (first|exact (Kd.C_below HR0_1.out HB.out)|(with_reducible refine Kd.C_alloc ?_ _)|(with_reducible refine Kd.C_drewN ?_ _)|(with_reducible refine Kd.C_drew ?_)))
          (case side6=>exact HC0_1.out)
          (case side7=>repeat (first|exact (Kd.N_reads' HO_239003.out).2.2|(with_reducible refine Kd.C_alloc ?_ _)|(with_reducible refine Kd.C_drewN ?_ _)|(with_reducible refine Kd.C_drew ?_)))
          (case side8=>exact (Kd.N_reads' HO_239003.out).2.1)
          rintro e w56 ⟨rfl,hb⟩
          refine ⟨_,rfl,?_⟩
          have n0_:=aK_ (Kd.V_below (by (with_reducible repeat (first|apply Kd.V_alloc|apply Kd.V_drewN|apply Kd.V_drew));exact HO_236003.out) hb)
          have n1_:=aK_ (Kd.N_below (by (with_reducible repeat (first|apply Kd.N_alloc|apply Kd.N_drewN|apply Kd.N_drew));exact HO_239003.out) hb)
          have n2_:=aK_ (zAV (g:=gb235) (o:=.cells #[.string a0_0,.slice A0_1 l0_1.length c0_1,.int .i64 a0_2,.slice Ao51 x236003_1.length co51] 25 (0,0)) (by (with_reducible repeat (first|refine zAG ?_ _|refine zAI ?_|refine zAH ?_ _));exact BK235.out) hb)
          have n3_:=aK_ (zAV (g:=gb236) (o:=.cells #[.string a1_0,.slice A1_1 l1_1.length c1_1,.int .i64 a1_2,.slice A1_3 l1_3.length c1_3] 25 (0,0)) (by (with_reducible repeat (first|refine zAG ?_ _|refine zAI ?_|refine zAH ?_ _));exact BK236.out) hb)
          have n4_:=aK_ (zAV (g:=gb238) (o:=.cells #[.string a0_0,.slice A0_1 l0_1.length c0_1,.int .i64 a0_2,.slice Ao49 x239003_1.length co49] 25 (0,0)) (by (with_reducible repeat (first|refine zAG ?_ _|refine zAI ?_|refine zAH ?_ _));exact BK238.out) hb)
          have n5_:=aK_ (zAN (by repeat (first|(with_reducible first|exact HB.out|apply zAB|apply zAA|apply zAE|refine zAF ?_ GE235.out|refine zAF ?_ GE236.out|refine zAF ?_ GE238.out)|exact HB.out)) hb)
          clear HO_236003
          clear HO_239003
          clear BK235
          clear BK236
          clear BK238
          clear HB
          have HO_236003:=n0_
          have HO_239003:=n1_
          have BK235:=n2_
          have BK236:=n3_
          have BK238:=n4_
          have HB:=n5_
          clear n0_ n1_ n2_ n3_ n4_ n5_
          (try clear hb)
          (try clear hb2)
          (try clear hk)
          (try clear hi)
          refine hK.out _ _ ⟨(zAD BK235.out 0).trans rfl,(zAD BK235.out 1).trans rfl,(zAD BK235.out 2).trans rfl,(zAD BK235.out 3).trans rfl,(zAD BK236.out 0).trans rfl,(zAD BK236.out 1).trans rfl,(zAD BK236.out 2).trans rfl,(zAD BK236.out 3).trans rfl,(zAD BK238.out 0).trans rfl,(zAD BK238.out 1).trans rfl,(zAD BK238.out 2).trans rfl,(zAD BK238.out 3).trans rfl⟩ (fun hHeld=>?_)
          clear hK K
          refine norm_ (a':=?_) ?_ ?_
          rotate_left
          ·show Act.put _ (some 53) _=_
           simp only [Act.put,List.setIfInBounds_toArray,List.set_cons_zero,List.set_cons_succ,i64_w,i32_w]
           rfl
          refine pure_ (i:=20) (N:=some 54) (v:=?_) (a':=?_) #[true,true,true,true,true,true,true,true,true,true,true,true,true,true,true,true,true,true,true,true,true,false,false,false,false,false,false] rfl rfl (any_of HT_.out (by kernel_rfl)) (fun _ _ _ h=>h) (Or.inl ⟨by rfl,?_⟩) ?_ ?_
          rotate_left
          ·intro w'
           go_simp
           with_reducible rfl
          rotate_left
          ·simp only [Act.put,List.setIfInBounds_toArray,List.set_cons_zero,List.set_cons_succ,i64_w,i32_w]
           rfl
          refine pure_ (i:=21) (N:=some 55) (v:=?_) (a':=?_) #[true,true,true,true,true,true,true,true,true,true,true,true,true,true,true,true,true,true,true,true,true,true,false,false,false,false,false] rfl rfl (any_of HT_.out (by kernel_rfl)) (fun _ _ _ h=>h) (Or.inl ⟨by rfl,?_⟩) ?_ ?_
          rotate_left
          ·intro w'
           go_simp
           with_reducible rfl
          rotate_left
          ·simp only [Act.put,List.setIfInBounds_toArray,List.set_cons_zero,List.set_cons_succ,i64_w,i32_w]
           rfl
          refine take_ (i:=22) (N:=some 56) (v:=?_) (a':=?_) #[true,true,true,true,true,true,true,true,true,true,true,true,true,true,true,true,true,true,true,true,true,true,true,false,false,false,false] rfl rfl (take_ofW HT_.out HW_.out (by kernel_rfl)) (fun _ _ _ h=>h) (Or.inl ⟨by rfl,?_⟩) hHeld ?_ ?_
          rotate_left
          ·rintro w' ⟨s0,s1,s2,s3,s4,s5,s6,s7,s8,s9,s10,s11⟩
           go_simp
           with_reducible rfl
          rotate_left
          ·simp only [Act.put,List.setIfInBounds_toArray,List.set_cons_zero,List.set_cons_succ,i64_w,i32_w]
           rfl
          refine take_ (i:=23) (N:=some 57) (v:=?_) (a':=?_) #[true,true,true,true,true,true,true,true,true,true,true,true,true,true,true,true,true,true,true,true,true,true,true,true,false,false,false] rfl rfl (take_ofW HT_.out HW_.out (by kernel_rfl)) (fun _ _ _ h=>h) (Or.inl ⟨by rfl,?_⟩) hHeld ?_ ?_
          rotate_left
          ·rintro w' ⟨s0,s1,s2,s3,s4,s5,s6,s7,s8,s9,s10,s11⟩
           go_simp
           with_reducible rfl
          rotate_left
          ·simp only [Act.put,List.setIfInBounds_toArray,List.set_cons_zero,List.set_cons_succ,i64_w,i32_w]
           rfl
          refine one_ (i:=24) (N:=some 58) #[true,true,true,true,true,true,true,true,true,true,true,true,true,true,true,true,true,true,true,true,true,true,true,true,true,false,false] rfl rfl (one_of HT_.out (by kernel_rfl)) (by decide) (fun K hK=>?_)
          refine goes_ Tryd.func18 (by kernel_rfl) rfl #[.agg #[.string a0_0,.slice A0_1 l0_1.length c0_1,.int .i64 a0_2,.slice Ao49 x239003_1.length co49],.agg #[.string a0_0,.slice A0_1 l0_1.length c0_1,.int .i64 a0_2,.slice Ao51 x236003_1.length co51]] (by rfl) rfl rfl (by (try simp only [List.map_toArray,List.map_cons,List.map_nil]);first|done|rfl|(simp only [List.length_drop,List.length_take];rfl)) ?_
          with_reducible refine (tree_Same.calls k1 a0_0 _ _ l0_1 a0_2 _ _ x239003_1 a0_0 _ _ l0_1 a0_2 _ _ x236003_1 t251 _ ?side1 ?side2 ?side3 ?side4 ?side5 ?side6 ?side7 ?side8 A45.out).mono ?_
          (case side1=>repeat (first|exact (Kd.C_below HR0_1.out HB.out)|(with_reducible refine Kd.C_alloc ?_ _)|(with_reducible refine Kd.C_drewN ?_ _)|(with_reducible refine Kd.C_drew ?_)))
          (case side2=>exact HC0_1.out)
          (case side3=>repeat (first|exact (Kd.N_reads' HO_239003.out).2.2|(with_reducible refine Kd.C_alloc ?_ _)|(with_reducible refine Kd.C_drewN ?_ _)|(with_reducible refine Kd.C_drew ?_)))
          (case side4=>exact (Kd.N_reads' HO_239003.out).2.1)
          (case side5=>repeat (first|exact (Kd.C_below HR0_1.out HB.out)|(with_reducible refine Kd.C_alloc ?_ _)|(with_reducible refine Kd.C_drewN ?_ _)|(with_reducible refine Kd.C_drew ?_)))
          (case side6=>exact HC0_1.out)
          (case side7=>repeat (first|exact (Kd.V_reads' HO_236003.out).2.2|(with_reducible refine Kd.C_alloc ?_ _)|(with_reducible refine Kd.C_drewN ?_ _)|(with_reducible refine Kd.C_drew ?_)))
          (case side8=>exact (Kd.V_reads' HO_236003.out).2.1)
          rintro e w57 ⟨rfl,hb⟩
          refine ⟨_,rfl,?_⟩
          have n0_:=aK_ (Kd.V_below (by (with_reducible repeat (first|apply Kd.V_alloc|apply Kd.V_drewN|apply Kd.V_drew));exact HO_236003.out) hb)
          have n1_:=aK_ (Kd.N_below (by (with_reducible repeat (first|apply Kd.N_alloc|apply Kd.N_drewN|apply Kd.N_drew));exact HO_239003.out) hb)
          have n2_:=aK_ (zAV (g:=gb235) (o:=.cells #[.string a0_0,.slice A0_1 l0_1.length c0_1,.int .i64 a0_2,.slice Ao51 x236003_1.length co51] 25 (0,0)) (by (with_reducible repeat (first|refine zAG ?_ _|refine zAI ?_|refine zAH ?_ _));exact BK235.out) hb)
          have n3_:=aK_ (zAV (g:=gb236) (o:=.cells #[.string a1_0,.slice A1_1 l1_1.length c1_1,.int .i64 a1_2,.slice A1_3 l1_3.length c1_3] 25 (0,0)) (by (with_reducible repeat (first|refine zAG ?_ _|refine zAI ?_|refine zAH ?_ _));exact BK236.out) hb)
          have n4_:=aK_ (zAV (g:=gb238) (o:=.cells #[.string a0_0,.slice A0_1 l0_1.length c0_1,.int .i64 a0_2,.slice Ao49 x239003_1.length co49] 25 (0,0)) (by (with_reducible repeat (first|refine zAG ?_ _|refine zAI ?_|refine zAH ?_ _));exact BK238.out) hb)
          have n5_:=aK_ (zAN (by repeat (first|(with_reducible first|exact HB.out|apply zAB|apply zAA|apply zAE|refine zAF ?_ GE235.out|refine zAF ?_ GE236.out|refine zAF ?_ GE238.out)|exact HB.out)) hb)
          clear HO_236003
          clear HO_239003
          clear BK235
          clear BK236
          clear BK238
          clear HB
          have HO_236003:=n0_
          have HO_239003:=n1_
          have BK235:=n2_
          have BK236:=n3_
          have BK238:=n4_
          have HB:=n5_
          clear n0_ n1_ n2_ n3_ n4_ n5_
          (try clear hb)
          (try clear hb2)
          (try clear hk)
          (try clear hi)
          refine hK.out _ _ ⟨(zAD BK235.out 0).trans rfl,(zAD BK235.out 1).trans rfl,(zAD BK235.out 2).trans rfl,(zAD BK235.out 3).trans rfl,(zAD BK236.out 0).trans rfl,(zAD BK236.out 1).trans rfl,(zAD BK236.out 2).trans rfl,(zAD BK236.out 3).trans rfl,(zAD BK238.out 0).trans rfl,(zAD BK238.out 1).trans rfl,(zAD BK238.out 2).trans rfl,(zAD BK238.out 3).trans rfl⟩ (fun hHeld=>?_)
          clear hK K
          refine norm_ (a':=?_) ?_ ?_
          rotate_left
          ·show Act.put _ (some 58) _=_
           simp only [Act.put,List.setIfInBounds_toArray,List.set_cons_zero,List.set_cons_succ,i64_w,i32_w]
           rfl
          refine pure_ (i:=25) (N:=some 59) (v:=?_) (a':=?_) #[true,true,true,true,true,true,true,true,true,true,true,true,true,true,true,true,true,true,true,true,true,true,true,true,true,true,false] rfl rfl (any_of HT_.out (by kernel_rfl)) (fun _ _ _ h=>h) (Or.inl ⟨by rfl,?_⟩) ?_ ?_
          rotate_left
          ·intro w'
           go_simp
           with_reducible rfl
          rotate_left
          ·simp only [Act.put,List.setIfInBounds_toArray,List.set_cons_zero,List.set_cons_succ,i64_w,i32_w]
           rfl
          refine pure_ (i:=26) (N:=some 6) (v:=?_) (a':=?_) #[true,true,true,true,true,true,true,true,true,true,true,true,true,true,true,true,true,true,true,true,true,true,true,true,true,true,true] rfl rfl (any_of HT_.out (by kernel_rfl)) (fun _ _ _ h=>h) (Or.inl ⟨by rfl,?_⟩) ?_ ?_
          rotate_left
          ·intro w'
           go_simp
           with_reducible rfl
          rotate_left
          ·simp only [Act.put,List.setIfInBounds_toArray,List.set_cons_zero,List.set_cons_succ,i64_w,i32_w]
           rfl
          refine done_ (done_of HT_.out (by kernel_rfl)) ?_
          try go_wp2
          go_ret
          exact ⟨by first|rfl|(simp [zAP,zAQ] <;> rfl)|(simp [*,zAP,zAQ] <;> rfl),by repeat (first|(with_reducible first|exact HB.out|apply zAB|apply zAA|apply zAE|refine zAF ?_ GE235.out|refine zAF ?_ GE236.out|refine zAF ?_ GE238.out)|exact HB.out)⟩
         ·replace c44:=Bool.eq_false_iff.mpr c44
          subst c44
          have H1:(some false)=some r:=by rw [if_neg (show ¬ (false=true) by decide)] at H;exact H
          clear H
          have H:=H1
          clear H1
          obtain rfl:=Option.some.inj H
          have hnb58:=NB238_235.out
          have hnc58:=NB235_238.out
          have hnb59:=NB238_236.out
          have hnc59:=NB236_238.out
          have hcz60_0:wr.cell? ⟨gb238,0,none⟩=some (.string a0_0):=(zAD BK238.out 0).trans rfl
          have hcz60_1:wr.cell? ⟨gb238,1,none⟩=some (.slice A0_1 l0_1.length c0_1):=(zAD BK238.out 1).trans rfl
          have hcz60_2:wr.cell? ⟨gb238,2,none⟩=some (.int .i64 a0_2):=(zAD BK238.out 2).trans rfl
          have hcz60_3:wr.cell? ⟨gb238,3,none⟩=some (u239003):=(zAD BK238.out 3).trans rfl
          have hfz60_0:=zAC BK238.out 0
          have hfz60_1:=zAC BK238.out 1
          have hfz60_2:=zAC BK238.out 2
          have hfz60_3:=zAC BK238.out 3
          obtain ⟨Ao61,co61,eo61⟩:=Kd.N_slice HO_239003.out
          subst eo61
          try go_wp2
          have n0_:=aK_ (Kd.V_drew HO_236003.out)
          have n1_:=aK_ (Kd.N_drew HO_239003.out)
          have n2_:=aK_ (zAI BK235.out)
          have n3_:=aK_ (zAI BK236.out)
          have n4_:=aK_ (zAI BK238.out)
          have n5_:=aK_ (zAE HB.out)
          clear HO_236003
          clear HO_239003
          clear BK235
          clear BK236
          clear BK238
          clear HB
          have HO_236003:=n0_
          have HO_239003:=n1_
          have BK235:=n2_
          have BK236:=n3_
          have BK238:=n4_
          have HB:=n5_
          clear n0_ n1_ n2_ n3_ n4_ n5_
          obtain ⟨Ao63,co63,eo63⟩:=Kd.V_slice HO_236003.out
          (first|subst eo63|(injection eo63 with f1_ f2_ f3_;have f4_:=f1_.symm;have f5_:=f3_.symm;clear f1_ f2_ f3_;subst f4_;subst f5_))
          refine start_ (n:=27) (S:=fun w'=>w'.cell? ⟨gb235,0,none⟩=some (.string a0_0)∧w'.cell? ⟨gb235,1,none⟩=some (.slice A0_1 l0_1.length c0_1)∧w'.cell? ⟨gb235,2,none⟩=some (.int .i64 a0_2)∧w'.cell? ⟨gb235,3,none⟩=some (.slice Ao63 x236003_1.length co63)∧w'.cell? ⟨gb236,0,none⟩=some (.string a1_0)∧w'.cell? ⟨gb236,1,none⟩=some (.slice A1_1 l1_1.length c1_1)∧w'.cell? ⟨gb236,2,none⟩=some (.int .i64 a1_2)∧w'.cell? ⟨gb236,3,none⟩=some (.slice A1_3 l1_3.length c1_3)∧w'.cell? ⟨gb238,0,none⟩=some (.string a0_0)∧w'.cell? ⟨gb238,1,none⟩=some (.slice A0_1 l0_1.length c0_1)∧w'.cell? ⟨gb238,2,none⟩=some (.int .i64 a0_2)∧w'.cell? ⟨gb238,3,none⟩=some (.slice Ao61 x239003_1.length co61)) (ds:=[]) #[false,false,false,false,false,false,false,false,false,false,false,false,false,false,false,false,false,false,false,false,false,false,false,false,false,false,false] (by kernel_rfl) rfl rfl ⟨(zAD BK235.out 0).trans rfl,(zAD BK235.out 1).trans rfl,(zAD BK235.out 2).trans rfl,(zAD BK235.out 3).trans rfl,(zAD BK236.out 0).trans rfl,(zAD BK236.out 1).trans rfl,(zAD BK236.out 2).trans rfl,(zAD BK236.out 3).trans rfl,(zAD BK238.out 0).trans rfl,(zAD BK238.out 1).trans rfl,(zAD BK238.out 2).trans rfl,(zAD BK238.out 3).trans rfl⟩ (fun hHeld=>?_);refine with_tabW zAW.tab11 zAW.bits11 (fun HT_ HW_=>?_)
          generalize wr.drew=w62 at HO_236003 HO_239003 BK235 BK236 BK238 HB hHeld ⊢
          refine take_ (i:=0) (N:=some 34) (v:=?_) (a':=?_) #[true,false,false,false,false,false,false,false,false,false,false,false,false,false,false,false,false,false,false,false,false,false,false,false,false,false,false] rfl rfl (take_ofW HT_.out HW_.out (by kernel_rfl)) (fun _ _ _ h=>h) (Or.inl ⟨by rfl,?_⟩) hHeld ?_ ?_
          rotate_left
          ·rintro w' ⟨s0,s1,s2,s3,s4,s5,s6,s7,s8,s9,s10,s11⟩
           go_simp
           with_reducible rfl
          rotate_left
          ·simp only [Act.put,List.setIfInBounds_toArray,List.set_cons_zero,List.set_cons_succ,i64_w,i32_w]
           rfl
          refine take_ (i:=1) (N:=some 35) (v:=?_) (a':=?_) #[true,true,false,false,false,false,false,false,false,false,false,false,false,false,false,false,false,false,false,false,false,false,false,false,false,false,false] rfl rfl (take_ofW HT_.out HW_.out (by kernel_rfl)) (fun _ _ _ h=>h) (Or.inl ⟨by rfl,?_⟩) hHeld ?_ ?_
          rotate_left
          ·rintro w' ⟨s0,s1,s2,s3,s4,s5,s6,s7,s8,s9,s10,s11⟩
           go_simp
           with_reducible rfl
          rotate_left
          ·simp only [Act.put,List.setIfInBounds_toArray,List.set_cons_zero,List.set_cons_succ,i64_w,i32_w]
           rfl
          refine take_ (i:=3) (N:=some 37) (v:=?_) (a':=?_) #[true,true,false,true,false,false,false,false,false,false,false,false,false,false,false,false,false,false,false,false,false,false,false,false,false,false,false] rfl rfl (take_ofW HT_.out HW_.out (by kernel_rfl)) (fun _ _ _ h=>h) (Or.inl ⟨by rfl,?_⟩) hHeld ?_ ?_
          rotate_left
          ·rintro w' ⟨s0,s1,s2,s3,s4,s5,s6,s7,s8,s9,s10,s11⟩
           go_simp
           with_reducible rfl
          rotate_left
          ·simp only [Act.put,List.setIfInBounds_toArray,List.set_cons_zero,List.set_cons_succ,i64_w,i32_w]
           rfl
          refine take_ (i:=4) (N:=some 38) (v:=?_) (a':=?_) #[true,true,false,true,true,false,false,false,false,false,false,false,false,false,false,false,false,false,false,false,false,false,false,false,false,false,false] rfl rfl (take_ofW HT_.out HW_.out (by kernel_rfl)) (fun _ _ _ h=>h) (Or.inl ⟨by rfl,?_⟩) hHeld ?_ ?_
          rotate_left
          ·rintro w' ⟨s0,s1,s2,s3,s4,s5,s6,s7,s8,s9,s10,s11⟩
           go_simp
           with_reducible rfl
          rotate_left
          ·simp only [Act.put,List.setIfInBounds_toArray,List.set_cons_zero,List.set_cons_succ,i64_w,i32_w]
           rfl
          refine one_ (i:=2) (N:=some 36) #[true,true,true,true,true,false,false,false,false,false,false,false,false,false,false,false,false,false,false,false,false,false,false,false,false,false,false] rfl rfl (one_of HT_.out (by kernel_rfl)) (by decide) (fun K hK=>?_)
          refine goes_ Tryd.func18 (by kernel_rfl) rfl #[.agg #[.string a0_0,.slice A0_1 l0_1.length c0_1,.int .i64 a0_2,.slice Ao63 x236003_1.length co63],.agg #[.string a1_0,.slice A1_1 l1_1.length c1_1,.int .i64 a1_2,.slice A1_3 l1_3.length c1_3]] (by rfl) rfl rfl (by (try simp only [List.map_toArray,List.map_cons,List.map_nil]);first|done|rfl|(simp only [List.length_drop,List.length_take];rfl)) ?_
          with_reducible refine (tree_Same.calls k1 a0_0 _ _ l0_1 a0_2 _ _ x236003_1 a1_0 _ _ l1_1 a1_2 _ _ l1_3 t246 _ ?side1 ?side2 ?side3 ?side4 ?side5 ?side6 ?side7 ?side8 A37.out).mono ?_
          (case side1=>repeat (first|exact (Kd.C_below HR0_1.out HB.out)|(with_reducible refine Kd.C_alloc ?_ _)|(with_reducible refine Kd.C_drewN ?_ _)|(with_reducible refine Kd.C_drew ?_)))
          (case side2=>exact HC0_1.out)
          (case side3=>repeat (first|exact (Kd.V_reads' HO_236003.out).2.2|(with_reducible refine Kd.C_alloc ?_ _)|(with_reducible refine Kd.C_drewN ?_ _)|(with_reducible refine Kd.C_drew ?_)))
          (case side4=>exact (Kd.V_reads' HO_236003.out).2.1)
          (case side5=>repeat (first|exact (Kd.C_below HR1_1.out HB.out)|(with_reducible refine Kd.C_alloc ?_ _)|(with_reducible refine Kd.C_drewN ?_ _)|(with_reducible refine Kd.C_drew ?_)))
          (case side6=>exact HC1_1.out)
          (case side7=>repeat (first|exact (Kd.C_below HR1_3.out HB.out)|(with_reducible refine Kd.C_alloc ?_ _)|(with_reducible refine Kd.C_drewN ?_ _)|(with_reducible refine Kd.C_drew ?_)))
          (case side8=>exact HC1_3.out)
          rintro e w64 ⟨rfl,hb⟩
          refine ⟨_,rfl,?_⟩
          have n0_:=aK_ (Kd.V_below (by (with_reducible repeat (first|apply Kd.V_alloc|apply Kd.V_drewN|apply Kd.V_drew));exact HO_236003.out) hb)
          have n1_:=aK_ (Kd.N_below (by (with_reducible repeat (first|apply Kd.N_alloc|apply Kd.N_drewN|apply Kd.N_drew));exact HO_239003.out) hb)
          have n2_:=aK_ (zAV (g:=gb235) (o:=.cells #[.string a0_0,.slice A0_1 l0_1.length c0_1,.int .i64 a0_2,.slice Ao63 x236003_1.length co63] 25 (0,0)) (by (with_reducible repeat (first|refine zAG ?_ _|refine zAI ?_|refine zAH ?_ _));exact BK235.out) hb)
          have n3_:=aK_ (zAV (g:=gb236) (o:=.cells #[.string a1_0,.slice A1_1 l1_1.length c1_1,.int .i64 a1_2,.slice A1_3 l1_3.length c1_3] 25 (0,0)) (by (with_reducible repeat (first|refine zAG ?_ _|refine zAI ?_|refine zAH ?_ _));exact BK236.out) hb)
          have n4_:=aK_ (zAV (g:=gb238) (o:=.cells #[.string a0_0,.slice A0_1 l0_1.length c0_1,.int .i64 a0_2,.slice Ao61 x239003_1.length co61] 25 (0,0)) (by (with_reducible repeat (first|refine zAG ?_ _|refine zAI ?_|refine zAH ?_ _));exact BK238.out) hb)
          have n5_:=aK_ (zAN (by repeat (first|(with_reducible first|exact HB.out|apply zAB|apply zAA|apply zAE|refine zAF ?_ GE235.out|refine zAF ?_ GE236.out|refine zAF ?_ GE238.out)|exact HB.out)) hb)
          clear HO_236003
          clear HO_239003
          clear BK235
          clear BK236
          clear BK238
          clear HB
          have HO_236003:=n0_
          have HO_239003:=n1_
          have BK235:=n2_
          have BK236:=n3_
          have BK238:=n4_
          have HB:=n5_
          clear n0_ n1_ n2_ n3_ n4_ n5_
          (try clear hb)
          (try clear hb2)
          (try clear hk)
          (try clear hi)
          refine hK.out _ _ ⟨(zAD BK235.out 0).trans rfl,(zAD BK235.out 1).trans rfl,(zAD BK235.out 2).trans rfl,(zAD BK235.out 3).trans rfl,(zAD BK236.out 0).trans rfl,(zAD BK236.out 1).trans rfl,(zAD BK236.out 2).trans rfl,(zAD BK236.out 3).trans rfl,(zAD BK238.out 0).trans rfl,(zAD BK238.out 1).trans rfl,(zAD BK238.out 2).trans rfl,(zAD BK238.out 3).trans rfl⟩ (fun hHeld=>?_)
          clear hK K
          refine norm_ (a':=?_) ?_ ?_
          rotate_left
          ·show Act.put _ (some 36) _=_
           simp only [Act.put,List.setIfInBounds_toArray,List.set_cons_zero,List.set_cons_succ,i64_w,i32_w]
           rfl
          refine one_ (i:=5) (N:=some 39) #[true,true,true,true,true,true,false,false,false,false,false,false,false,false,false,false,false,false,false,false,false,false,false,false,false,false,false] rfl rfl (one_of HT_.out (by kernel_rfl)) (by decide) (fun K hK=>?_)
          refine goes_ Tryd.func19 (by kernel_rfl) rfl #[.agg #[.string a0_0,.slice A0_1 l0_1.length c0_1,.int .i64 a0_2,.slice Ao63 x236003_1.length co63],.agg #[.string a1_0,.slice A1_1 l1_1.length c1_1,.int .i64 a1_2,.slice A1_3 l1_3.length c1_3]] (by rfl) rfl rfl (by (try simp only [List.map_toArray,List.map_cons,List.map_nil]);first|done|rfl|(simp only [List.length_drop,List.length_take];rfl)) ?_
          with_reducible refine (zAL.calls k1 a0_0 _ _ l0_1 a0_2 _ _ x236003_1 a1_0 _ _ l1_1 a1_2 _ _ l1_3 t247 _ ?side1 ?side2 ?side3 ?side4 ?side5 ?side6 ?side7 ?side8 A38.out).mono ?_
          (case side1=>repeat (first|exact (Kd.C_below HR0_1.out HB.out)|(with_reducible refine Kd.C_alloc ?_ _)|(with_reducible refine Kd.C_drewN ?_ _)|(with_reducible refine Kd.C_drew ?_)))
          (case side2=>exact HC0_1.out)
          (case side3=>repeat (first|exact (Kd.V_reads' HO_236003.out).2.2|(with_reducible refine Kd.C_alloc ?_ _)|(with_reducible refine Kd.C_drewN ?_ _)|(with_reducible refine Kd.C_drew ?_)))
          (case side4=>exact (Kd.V_reads' HO_236003.out).2.1)
          (case side5=>repeat (first|exact (Kd.C_below HR1_1.out HB.out)|(with_reducible refine Kd.C_alloc ?_ _)|(with_reducible refine Kd.C_drewN ?_ _)|(with_reducible refine Kd.C_drew ?_)))
          (case side6=>exact HC1_1.out)
          (case side7=>repeat (first|exact (Kd.C_below HR1_3.out HB.out)|(with_reducible refine Kd.C_alloc ?_ _)|(with_reducible refine Kd.C_drewN ?_ _)|(with_reducible refine Kd.C_drew ?_)))
          (case side8=>exact HC1_3.out)
          rintro e w65 ⟨rfl,hb⟩
          refine ⟨_,rfl,?_⟩
          have n0_:=aK_ (Kd.V_below (by (with_reducible repeat (first|apply Kd.V_alloc|apply Kd.V_drewN|apply Kd.V_drew));exact HO_236003.out) hb)
          have n1_:=aK_ (Kd.N_below (by (with_reducible repeat (first|apply Kd.N_alloc|apply Kd.N_drewN|apply Kd.N_drew));exact HO_239003.out) hb)
          have n2_:=aK_ (zAV (g:=gb235) (o:=.cells #[.string a0_0,.slice A0_1 l0_1.length c0_1,.int .i64 a0_2,.slice Ao63 x236003_1.length co63] 25 (0,0)) (by (with_reducible repeat (first|refine zAG ?_ _|refine zAI ?_|refine zAH ?_ _));exact BK235.out) hb)
          have n3_:=aK_ (zAV (g:=gb236) (o:=.cells #[.string a1_0,.slice A1_1 l1_1.length c1_1,.int .i64 a1_2,.slice A1_3 l1_3.length c1_3] 25 (0,0)) (by (with_reducible repeat (first|refine zAG ?_ _|refine zAI ?_|refine zAH ?_ _));exact BK236.out) hb)
          have n4_:=aK_ (zAV (g:=gb238) (o:=.cells #[.string a0_0,.slice A0_1 l0_1.length c0_1,.int .i64 a0_2,.slice Ao61 x239003_1.length co61] 25 (0,0)) (by (with_reducible repeat (first|refine zAG ?_ _|refine zAI ?_|refine zAH ?_ _));exact BK238.out) hb)
          have n5_:=aK_ (zAN (by repeat (first|(with_reducible first|exact HB.out|apply zAB|apply zAA|apply zAE|refine zAF ?_ GE235.out|refine zAF ?_ GE236.out|refine zAF ?_ GE238.out)|exact HB.out)) hb)
          clear HO_236003
          clear HO_239003
          clear BK235
          clear BK236
          clear BK238
          clear HB
          have HO_236003:=n0_
          have HO_239003:=n1_
          have BK235:=n2_
          have BK236:=n3_
          have BK238:=n4_
          have HB:=n5_
          clear n0_ n1_ n2_ n3_ n4_ n5_
          (try clear hb)
          (try clear hb2)
          (try clear hk)
          (try clear hi)
          refine hK.out _ _ ⟨(zAD BK235.out 0).trans rfl,(zAD BK235.out 1).trans rfl,(zAD BK235.out 2).trans rfl,(zAD BK235.out 3).trans rfl,(zAD BK236.out 0).trans rfl,(zAD BK236.out 1).trans rfl,(zAD BK236.out 2).trans rfl,(zAD BK236.out 3).trans rfl,(zAD BK238.out 0).trans rfl,(zAD BK238.out 1).trans rfl,(zAD BK238.out 2).trans rfl,(zAD BK238.out 3).trans rfl⟩ (fun hHeld=>?_)
          clear hK K
          refine norm_ (a':=?_) ?_ ?_
          rotate_left
          ·show Act.put _ (some 39) _=_
           simp only [Act.put,List.setIfInBounds_toArray,List.set_cons_zero,List.set_cons_succ,i64_w,i32_w]
           rfl
          refine pure_ (i:=6) (N:=some 40) (v:=?_) (a':=?_) #[true,true,true,true,true,true,true,false,false,false,false,false,false,false,false,false,false,false,false,false,false,false,false,false,false,false,false] rfl rfl (any_of HT_.out (by kernel_rfl)) (fun _ _ _ h=>h) (Or.inl ⟨by rfl,?_⟩) ?_ ?_
          rotate_left
          ·intro w'
           go_simp
           with_reducible rfl
          rotate_left
          ·simp only [Act.put,List.setIfInBounds_toArray,List.set_cons_zero,List.set_cons_succ,i64_w,i32_w]
           rfl
          refine pure_ (i:=7) (N:=some 41) (v:=?_) (a':=?_) #[true,true,true,true,true,true,true,true,false,false,false,false,false,false,false,false,false,false,false,false,false,false,false,false,false,false,false] rfl rfl (any_of HT_.out (by kernel_rfl)) (fun _ _ _ h=>h) (Or.inl ⟨by rfl,?_⟩) ?_ ?_
          rotate_left
          ·intro w'
           go_simp
           with_reducible rfl
          rotate_left
          ·simp only [Act.put,List.setIfInBounds_toArray,List.set_cons_zero,List.set_cons_succ,i64_w,i32_w]
           rfl
          refine take_ (i:=8) (N:=some 42) (v:=?_) (a':=?_) #[true,true,true,true,true,true,true,true,true,false,false,false,false,false,false,false,false,false,false,false,false,false,false,false,false,false,false] rfl rfl (take_ofW HT_.out HW_.out (by kernel_rfl)) (fun _ _ _ h=>h) (Or.inl ⟨by rfl,?_⟩) hHeld ?_ ?_
          rotate_left
          ·rintro w' ⟨s0,s1,s2,s3,s4,s5,s6,s7,s8,s9,s10,s11⟩
           go_simp
           with_reducible rfl
          rotate_left
          ·simp only [Act.put,List.setIfInBounds_toArray,List.set_cons_zero,List.set_cons_succ,i64_w,i32_w]
           rfl
          refine take_ (i:=9) (N:=some 43) (v:=?_) (a':=?_) #[true,true,true,true,true,true,true,true,true,true,false,false,false,false,false,false,false,false,false,false,false,false,false,false,false,false,false] rfl rfl (take_ofW HT_.out HW_.out (by kernel_rfl)) (fun _ _ _ h=>h) (Or.inl ⟨by rfl,?_⟩) hHeld ?_ ?_
          rotate_left
          ·rintro w' ⟨s0,s1,s2,s3,s4,s5,s6,s7,s8,s9,s10,s11⟩
           go_simp
           with_reducible rfl
          rotate_left
          ·simp only [Act.put,List.setIfInBounds_toArray,List.set_cons_zero,List.set_cons_succ,i64_w,i32_w]
           rfl
          refine take_ (i:=11) (N:=some 45) (v:=?_) (a':=?_) #[true,true,true,true,true,true,true,true,true,true,false,true,false,false,false,false,false,false,false,false,false,false,false,false,false,false,false] rfl rfl (take_ofW HT_.out HW_.out (by kernel_rfl)) (fun _ _ _ h=>h) (Or.inl ⟨by rfl,?_⟩) hHeld ?_ ?_
          rotate_left
          ·rintro w' ⟨s0,s1,s2,s3,s4,s5,s6,s7,s8,s9,s10,s11⟩
           go_simp
           with_reducible rfl
          rotate_left
          ·simp only [Act.put,List.setIfInBounds_toArray,List.set_cons_zero,List.set_cons_succ,i64_w,i32_w]
           rfl
          refine take_ (i:=12) (N:=some 46) (v:=?_) (a':=?_) #[true,true,true,true,true,true,true,true,true,true,false,true,true,false,false,false,false,false,false,false,false,false,false,false,false,false,false] rfl rfl (take_ofW HT_.out HW_.out (by kernel_rfl)) (fun _ _ _ h=>h) (Or.inl ⟨by rfl,?_⟩) hHeld ?_ ?_
          rotate_left
          ·rintro w' ⟨s0,s1,s2,s3,s4,s5,s6,s7,s8,s9,s10,s11⟩
           go_simp
           with_reducible rfl
          rotate_left
          ·simp only [Act.put,List.setIfInBounds_toArray,List.set_cons_zero,List.set_cons_succ,i64_w,i32_w]
           rfl
          refine one_ (i:=10) (N:=some 44) #[true,true,true,true,true,true,true,true,true,true,true,true,true,false,false,false,false,false,false,false,false,false,false,false,false,false,false] rfl rfl (one_of HT_.out (by kernel_rfl)) (by decide) (fun K hK=>?_)
          refine goes_ Tryd.func18 (by kernel_rfl) rfl #[.agg #[.string a1_0,.slice A1_1 l1_1.length c1_1,.int .i64 a1_2,.slice A1_3 l1_3.length c1_3],.agg #[.string a0_0,.slice A0_1 l0_1.length c0_1,.int .i64 a0_2,.slice Ao63 x236003_1.length co63]] (by rfl) rfl rfl (by (try simp only [List.map_toArray,List.map_cons,List.map_nil]);first|done|rfl|(simp only [List.length_drop,List.length_take];rfl)) ?_
          with_reducible refine (tree_Same.calls k1 a1_0 _ _ l1_1 a1_2 _ _ l1_3 a0_0 _ _ l0_1 a0_2 _ _ x236003_1 t248 _ ?side1 ?side2 ?side3 ?side4 ?side5 ?side6 ?side7 ?side8 A40.out).mono ?_
          (case side1=>repeat (first|exact (Kd.C_below HR1_1.out HB.out)|(with_reducible refine Kd.C_alloc ?_ _)|(with_reducible refine Kd.C_drewN ?_ _)|(with_reducible refine Kd.C_drew ?_)))
          (case side2=>exact HC1_1.out)
          (case side3=>repeat (first|exact (Kd.C_below HR1_3.out HB.out)|(with_reducible refine Kd.C_alloc ?_ _)|(with_reducible refine Kd.C_drewN ?_ _)|(with_reducible refine Kd.C_drew ?_)))
          (case side4=>exact HC1_3.out)
          (case side5=>repeat (first|exact (Kd.C_below HR0_1.out HB.out)|(with_reducible refine Kd.C_alloc ?_ _)|(with_reducible refine Kd.C_drewN ?_ _)|(with_reducible refine Kd.C_drew ?_)))
          (case side6=>exact HC0_1.out)
          (case side7=>repeat (first|exact (Kd.V_reads' HO_236003.out).2.2|(with_reducible refine Kd.C_alloc ?_ _)|(with_reducible refine Kd.C_drewN ?_ _)|(with_reducible refine Kd.C_drew ?_)))
          (case side8=>exact (Kd.V_reads' HO_236003.out).2.1)
          rintro e w66 ⟨rfl,hb⟩
          refine ⟨_,rfl,?_⟩
          have n0_:=aK_ (Kd.V_below (by (with_reducible repeat (first|apply Kd.V_alloc|apply Kd.V_drewN|apply Kd.V_drew));exact HO_236003.out) hb)
          have n1_:=aK_ (Kd.N_below (by (with_reducible repeat (first|apply Kd.N_alloc|apply Kd.N_drewN|apply Kd.N_drew));exact HO_239003.out) hb)
          have n2_:=aK_ (zAV (g:=gb235) (o:=.cells #[.string a0_0,.slice A0_1 l0_1.length c0_1,.int .i64 a0_2,.slice Ao63 x236003_1.length co63] 25 (0,0)) (by (with_reducible repeat (first|refine zAG ?_ _|refine zAI ?_|refine zAH ?_ _));exact BK235.out) hb)
          have n3_:=aK_ (zAV (g:=gb236) (o:=.cells #[.string a1_0,.slice A1_1 l1_1.length c1_1,.int .i64 a1_2,.slice A1_3 l1_3.length c1_3] 25 (0,0)) (by (with_reducible repeat (first|refine zAG ?_ _|refine zAI ?_|refine zAH ?_ _));exact BK236.out) hb)
          have n4_:=aK_ (zAV (g:=gb238) (o:=.cells #[.string a0_0,.slice A0_1 l0_1.length c0_1,.int .i64 a0_2,.slice Ao61 x239003_1.length co61] 25 (0,0)) (by (with_reducible repeat (first|refine zAG ?_ _|refine zAI ?_|refine zAH ?_ _));exact BK238.out) hb)
          have n5_:=aK_ (zAN (by repeat (first|(with_reducible first|exact HB.out|apply zAB|apply zAA|apply zAE|refine zAF ?_ GE235.out|refine zAF ?_ GE236.out|refine zAF ?_ GE238.out)|exact HB.out)) hb)
          clear HO_236003
          clear HO_239003
          clear BK235
          clear BK236
          clear BK238
          clear HB
          have HO_236003:=n0_
          have HO_239003:=n1_
          have BK235:=n2_
          have BK236:=n3_
          have BK238:=n4_
          have HB:=n5_
          clear n0_ n1_ n2_ n3_ n4_ n5_
          (try clear hb)
          (try clear hb2)
          (try clear hk)
          (try clear hi)
          refine hK.out _ _ ⟨(zAD BK235.out 0).trans rfl,(zAD BK235.out 1).trans rfl,(zAD BK235.out 2).trans rfl,(zAD BK235.out 3).trans rfl,(zAD BK236.out 0).trans rfl,(zAD BK236.out 1).trans rfl,(zAD BK236.out 2).trans rfl,(zAD BK236.out 3).trans rfl,(zAD BK238.out 0).trans rfl,(zAD BK238.out 1).trans rfl,(zAD BK238.out 2).trans rfl,(zAD BK238.out 3).trans rfl⟩ (fun hHeld=>?_)
          clear hK K
          refine norm_ (a':=?_) ?_ ?_
          rotate_left
          ·show Act.put _ (some 44) _=_
           simp only [Act.put,List.setIfInBounds_toArray,List.set_cons_zero,List.set_cons_succ,i64_w,i32_w]
           rfl
          refine one_ (i:=13) (N:=some 47) #[true,true,true,true,true,true,true,true,true,true,true,true,true,true,false,false,false,false,false,false,false,false,false,false,false,false,false] rfl rfl (one_of HT_.out (by kernel_rfl)) (by decide) (fun K hK=>?_)
          refine goes_ Tryd.func18 (by kernel_rfl) rfl #[.agg #[.string a0_0,.slice A0_1 l0_1.length c0_1,.int .i64 a0_2,.slice Ao63 x236003_1.length co63],.agg #[.string a1_0,.slice A1_1 l1_1.length c1_1,.int .i64 a1_2,.slice A1_3 l1_3.length c1_3]] (by rfl) rfl rfl (by (try simp only [List.map_toArray,List.map_cons,List.map_nil]);first|done|rfl|(simp only [List.length_drop,List.length_take];rfl)) ?_
          with_reducible refine (tree_Same.calls k1 a0_0 _ _ l0_1 a0_2 _ _ x236003_1 a1_0 _ _ l1_1 a1_2 _ _ l1_3 t249 _ ?side1 ?side2 ?side3 ?side4 ?side5 ?side6 ?side7 ?side8 A41.out).mono ?_
          (case side1=>repeat (first|exact (Kd.C_below HR0_1.out HB.out)|(with_reducible refine Kd.C_alloc ?_ _)|(with_reducible refine Kd.C_drewN ?_ _)|(with_reducible refine Kd.C_drew ?_)))
          (case side2=>exact HC0_1.out)
          (case side3=>repeat (first|exact (Kd.V_reads' HO_236003.out).2.2|(with_reducible refine Kd.C_alloc ?_ _)|(with_reducible refine Kd.C_drewN ?_ _)|(with_reducible refine Kd.C_drew ?_)))
          (case side4=>exact (Kd.V_reads' HO_236003.out).2.1)
          (case side5=>repeat (first|exact (Kd.C_below HR1_1.out HB.out)|(with_reducible refine Kd.C_alloc ?_ _)|(with_reducible refine Kd.C_drewN ?_ _)|(with_reducible refine Kd.C_drew ?_)))
          (case side6=>exact HC1_1.out)
          (case side7=>repeat (first|exact (Kd.C_below HR1_3.out HB.out)|(with_reducible refine Kd.C_alloc ?_ _)|(with_reducible refine Kd.C_drewN ?_ _)|(with_reducible refine Kd.C_drew ?_)))
          (case side8=>exact HC1_3.out)
          rintro e w67 ⟨rfl,hb⟩
          refine ⟨_,rfl,?_⟩
          have n0_:=aK_ (Kd.V_below (by (with_reducible repeat (first|apply Kd.V_alloc|apply Kd.V_drewN|apply Kd.V_drew));exact HO_236003.out) hb)
          have n1_:=aK_ (Kd.N_below (by (with_reducible repeat (first|apply Kd.N_alloc|apply Kd.N_drewN|apply Kd.N_drew));exact HO_239003.out) hb)
          have n2_:=aK_ (zAV (g:=gb235) (o:=.cells #[.string a0_0,.slice A0_1 l0_1.length c0_1,.int .i64 a0_2,.slice Ao63 x236003_1.length co63] 25 (0,0)) (by (with_reducible repeat (first|refine zAG ?_ _|refine zAI ?_|refine zAH ?_ _));exact BK235.out) hb)
          have n3_:=aK_ (zAV (g:=gb236) (o:=.cells #[.string a1_0,.slice A1_1 l1_1.length c1_1,.int .i64 a1_2,.slice A1_3 l1_3.length c1_3] 25 (0,0)) (by (with_reducible repeat (first|refine zAG ?_ _|refine zAI ?_|refine zAH ?_ _));exact BK236.out) hb)
          have n4_:=aK_ (zAV (g:=gb238) (o:=.cells #[.string a0_0,.slice A0_1 l0_1.length c0_1,.int .i64 a0_2,.slice Ao61 x239003_1.length co61] 25 (0,0)) (by (with_reducible repeat (first|refine zAG ?_ _|refine zAI ?_|refine zAH ?_ _));exact BK238.out) hb)
          have n5_:=aK_ (zAN (by repeat (first|(with_reducible first|exact HB.out|apply zAB|apply zAA|apply zAE|refine zAF ?_ GE235.out|refine zAF ?_ GE236.out|refine zAF ?_ GE238.out)|exact HB.out)) hb)
          clear HO_236003
          clear HO_239003
          clear BK235
          clear BK236
          clear BK238
          clear HB
          have HO_236003:=n0_
          have HO_239003:=n1_
          have BK235:=n2_
          have BK236:=n3_
          have BK238:=n4_
          have HB:=n5_
          clear n0_ n1_ n2_ n3_ n4_ n5_
          (try clear hb)
          (try clear hb2)
          (try clear hk)
          (try clear hi)
          refine hK.out _ _ ⟨(zAD BK235.out 0).trans rfl,(zAD BK235.out 1).trans rfl,(zAD BK235.out 2).trans rfl,(zAD BK235.out 3).trans rfl,(zAD BK236.out 0).trans rfl,(zAD BK236.out 1).trans rfl,(zAD BK236.out 2).trans rfl,(zAD BK236.out 3).trans rfl,(zAD BK238.out 0).trans rfl,(zAD BK238.out 1).trans rfl,(zAD BK238.out 2).trans rfl,(zAD BK238.out 3).trans rfl⟩ (fun hHeld=>?_)
          clear hK K
          refine norm_ (a':=?_) ?_ ?_
          rotate_left
          ·show Act.put _ (some 47) _=_
           simp only [Act.put,List.setIfInBounds_toArray,List.set_cons_zero,List.set_cons_succ,i64_w,i32_w]
           rfl
          refine pure_ (i:=14) (N:=some 48) (v:=?_) (a':=?_) #[true,true,true,true,true,true,true,true,true,true,true,true,true,true,true,false,false,false,false,false,false,false,false,false,false,false,false] rfl rfl (any_of HT_.out (by kernel_rfl)) (fun _ _ _ h=>h) (Or.inl ⟨by rfl,?_⟩) ?_ ?_
          rotate_left
          ·intro w'
           go_simp
           with_reducible rfl
          rotate_left
          ·simp only [Act.put,List.setIfInBounds_toArray,List.set_cons_zero,List.set_cons_succ,i64_w,i32_w]
           rfl
          refine pure_ (i:=15) (N:=some 49) (v:=?_) (a':=?_) #[true,true,true,true,true,true,true,true,true,true,true,true,true,true,true,true,false,false,false,false,false,false,false,false,false,false,false] rfl rfl (any_of HT_.out (by kernel_rfl)) (fun _ _ _ h=>h) (Or.inl ⟨by rfl,?_⟩) ?_ ?_
          rotate_left
          ·intro w'
           go_simp
           with_reducible rfl
          rotate_left
          ·simp only [Act.put,List.setIfInBounds_toArray,List.set_cons_zero,List.set_cons_succ,i64_w,i32_w]
           rfl
          refine pure_ (i:=16) (N:=some 50) (v:=?_) (a':=?_) #[true,true,true,true,true,true,true,true,true,true,true,true,true,true,true,true,true,false,false,false,false,false,false,false,false,false,false] rfl rfl (any_of HT_.out (by kernel_rfl)) (fun _ _ _ h=>h) (Or.inl ⟨by rfl,?_⟩) ?_ ?_
          rotate_left
          ·intro w'
           go_simp
           with_reducible rfl
          rotate_left
          ·simp only [Act.put,List.setIfInBounds_toArray,List.set_cons_zero,List.set_cons_succ,i64_w,i32_w]
           rfl
          refine take_ (i:=17) (N:=some 51) (v:=?_) (a':=?_) #[true,true,true,true,true,true,true,true,true,true,true,true,true,true,true,true,true,true,false,false,false,false,false,false,false,false,false] rfl rfl (take_ofW HT_.out HW_.out (by kernel_rfl)) (fun _ _ _ h=>h) (Or.inl ⟨by rfl,?_⟩) hHeld ?_ ?_
          rotate_left
          ·rintro w' ⟨s0,s1,s2,s3,s4,s5,s6,s7,s8,s9,s10,s11⟩
           go_simp
           with_reducible rfl
          rotate_left
          ·simp only [Act.put,List.setIfInBounds_toArray,List.set_cons_zero,List.set_cons_succ,i64_w,i32_w]
           rfl
          refine take_ (i:=18) (N:=some 52) (v:=?_) (a':=?_) #[true,true,true,true,true,true,true,true,true,true,true,true,true,true,true,true,true,true,true,false,false,false,false,false,false,false,false] rfl rfl (take_ofW HT_.out HW_.out (by kernel_rfl)) (fun _ _ _ h=>h) (Or.inl ⟨by rfl,?_⟩) hHeld ?_ ?_
          rotate_left
          ·rintro w' ⟨s0,s1,s2,s3,s4,s5,s6,s7,s8,s9,s10,s11⟩
           go_simp
           with_reducible rfl
          rotate_left
          ·simp only [Act.put,List.setIfInBounds_toArray,List.set_cons_zero,List.set_cons_succ,i64_w,i32_w]
           rfl
          refine one_ (i:=19) (N:=some 53) #[true,true,true,true,true,true,true,true,true,true,true,true,true,true,true,true,true,true,true,true,false,false,false,false,false,false,false] rfl rfl (one_of HT_.out (by kernel_rfl)) (by decide) (fun K hK=>?_)
          refine goes_ Tryd.func18 (by kernel_rfl) rfl #[.agg #[.string a0_0,.slice A0_1 l0_1.length c0_1,.int .i64 a0_2,.slice Ao63 x236003_1.length co63],.agg #[.string a0_0,.slice A0_1 l0_1.length c0_1,.int .i64 a0_2,.slice Ao61 x239003_1.length co61]] (by rfl) rfl rfl (by (try simp only [List.map_toArray,List.map_cons,List.map_nil]);first|done|rfl|(simp only [List.length_drop,List.length_take];rfl)) ?_
          with_reducible refine (tree_Same.calls k1 a0_0 _ _ l0_1 a0_2 _ _ x236003_1 a0_0 _ _ l0_1 a0_2 _ _ x239003_1 false _ ?side1 ?side2 ?side3 ?side4 ?side5 ?side6 ?side7 ?side8 A43.out).mono ?_
          (case side1=>repeat (first|exact (Kd.C_below HR0_1.out HB.out)|(with_reducible refine Kd.C_alloc ?_ _)|(with_reducible refine Kd.C_drewN ?_ _)|(with_reducible refine Kd.C_drew ?_)))
          (case side2=>exact HC0_1.out)
          (case side3=>repeat (first|exact (Kd.V_reads' HO_236003.out).2.2|(with_reducible refine Kd.C_alloc ?_ _)|(with_reducible refine Kd.C_drewN ?_ _)|(with_reducible refine Kd.C_drew ?_)))
          (case side4=>exact (Kd.V_reads' HO_236003.out).2.1)
          (case side5=>repeat (first|exact (Kd.C_below HR0_1.out HB.out)|(with_reducible refine Kd.C_alloc ?_ _)|(with_reducible refine Kd.C_drewN ?_ _)|(with_reducible refine Kd.C_drew ?_)))
          (case side6=>exact HC0_1.out)
          (case side7=>repeat (first|exact (Kd.N_reads' HO_239003.out).2.2|(with_reducible refine Kd.C_alloc ?_ _)|(with_reducible refine Kd.C_drewN ?_ _)|(with_reducible refine Kd.C_drew ?_)))
          (case side8=>exact (Kd.N_reads' HO_239003.out).2.1)
          rintro e w68 ⟨rfl,hb⟩
          refine ⟨_,rfl,?_⟩
          have n0_:=aK_ (Kd.V_below (by (with_reducible repeat (first|apply Kd.V_alloc|apply Kd.V_drewN|apply Kd.V_drew));exact HO_236003.out) hb)
          have n1_:=aK_ (Kd.N_below (by (with_reducible repeat (first|apply Kd.N_alloc|apply Kd.N_drewN|apply Kd.N_drew));exact HO_239003.out) hb)
          have n2_:=aK_ (zAV (g:=gb235) (o:=.cells #[.string a0_0,.slice A0_1 l0_1.length c0_1,.int .i64 a0_2,.slice Ao63 x236003_1.length co63] 25 (0,0)) (by (with_reducible repeat (first|refine zAG ?_ _|refine zAI ?_|refine zAH ?_ _));exact BK235.out) hb)
          have n3_:=aK_ (zAV (g:=gb236) (o:=.cells #[.string a1_0,.slice A1_1 l1_1.length c1_1,.int .i64 a1_2,.slice A1_3 l1_3.length c1_3] 25 (0,0)) (by (with_reducible repeat (first|refine zAG ?_ _|refine zAI ?_|refine zAH ?_ _));exact BK236.out) hb)
          have n4_:=aK_ (zAV (g:=gb238) (o:=.cells #[.string a0_0,.slice A0_1 l0_1.length c0_1,.int .i64 a0_2,.slice Ao61 x239003_1.length co61] 25 (0,0)) (by (with_reducible repeat (first|refine zAG ?_ _|refine zAI ?_|refine zAH ?_ _));exact BK238.out) hb)
          have n5_:=aK_ (zAN (by repeat (first|(with_reducible first|exact HB.out|apply zAB|apply zAA|apply zAE|refine zAF ?_ GE235.out|refine zAF ?_ GE236.out|refine zAF ?_ GE238.out)|exact HB.out)) hb)
          clear HO_236003
          clear HO_239003
          clear BK235
          clear BK236
          clear BK238
          clear HB
          have HO_236003:=n0_
          have HO_239003:=n1_
          have BK235:=n2_
          have BK236:=n3_
          have BK238:=n4_
          have HB:=n5_
          clear n0_ n1_ n2_ n3_ n4_ n5_
          (try clear hb)
          (try clear hb2)
          (try clear hk)
          (try clear hi)
          refine hK.out _ _ ⟨(zAD BK235.out 0).trans rfl,(zAD BK235.out 1).trans rfl,(zAD BK235.out 2).trans rfl,(zAD BK235.out 3).trans rfl,(zAD BK236.out 0).trans rfl,(zAD BK236.out 1).trans rfl,(zAD BK236.out 2).trans rfl,(zAD BK236.out 3).trans rfl,(zAD BK238.out 0).trans rfl,(zAD BK238.out 1).trans rfl,(zAD BK238.out 2).trans rfl,(zAD BK238.out 3).trans rfl⟩ (fun hHeld=>?_)
          clear hK K
          refine norm_ (a':=?_) ?_ ?_
          rotate_left
          ·show Act.put _ (some 53) _=_
           simp only [Act.put,List.setIfInBounds_toArray,List.set_cons_zero,List.set_cons_succ,i64_w,i32_w]
           rfl
          refine pure_ (i:=20) (N:=some 54) (v:=?_) (a':=?_) #[true,true,true,true,true,true,true,true,true,true,true,true,true,true,true,true,true,true,true,true,true,false,false,false,false,false,false] rfl rfl (any_of HT_.out (by kernel_rfl)) (fun _ _ _ h=>h) (Or.inl ⟨by rfl,?_⟩) ?_ ?_
          rotate_left
          ·intro w'
           go_simp
           with_reducible rfl
          rotate_left
          ·simp only [Act.put,List.setIfInBounds_toArray,List.set_cons_zero,List.set_cons_succ,i64_w,i32_w]
           rfl
          refine pure_ (i:=21) (N:=some 55) (v:=?_) (a':=?_) #[true,true,true,true,true,true,true,true,true,true,true,true,true,true,true,true,true,true,true,true,true,true,false,false,false,false,false] rfl rfl (any_of HT_.out (by kernel_rfl)) (fun _ _ _ h=>h) (Or.inl ⟨by rfl,?_⟩) ?_ ?_
          rotate_left
          ·intro w'
           go_simp
           with_reducible rfl
          rotate_left
          ·simp only [Act.put,List.setIfInBounds_toArray,List.set_cons_zero,List.set_cons_succ,i64_w,i32_w]
           rfl
          refine pure_ (i:=22) (N:=some 56) (v:=undef) (a':=?_) #[true,true,true,true,true,true,true,true,true,true,true,true,true,true,true,true,true,true,true,true,true,true,true,false,false,false,false] rfl rfl (any_of HT_.out (by kernel_rfl)) (fun _ _ _ h=>h) (Or.inr ⟨by rfl,rfl⟩) ?_ ?_
          rotate_left
          ·simp only [Act.put,List.setIfInBounds_toArray,List.set_cons_zero,List.set_cons_succ,i64_w,i32_w]
           rfl
          refine pure_ (i:=23) (N:=some 57) (v:=undef) (a':=?_) #[true,true,true,true,true,true,true,true,true,true,true,true,true,true,true,true,true,true,true,true,true,true,true,true,false,false,false] rfl rfl (any_of HT_.out (by kernel_rfl)) (fun _ _ _ h=>h) (Or.inr ⟨by rfl,rfl⟩) ?_ ?_
          rotate_left
          ·simp only [Act.put,List.setIfInBounds_toArray,List.set_cons_zero,List.set_cons_succ,i64_w,i32_w]
           rfl
          refine pure_ (i:=24) (N:=some 58) (v:=undef) (a':=?_) #[true,true,true,true,true,true,true,true,true,true,true,true,true,true,true,true,true,true,true,true,true,true,true,true,true,false,false] rfl rfl (any_of HT_.out (by kernel_rfl)) (fun _ _ _ h=>h) (Or.inr ⟨by rfl,rfl⟩) ?_ ?_
          rotate_left
          ·simp only [Act.put,List.setIfInBounds_toArray,List.set_cons_zero,List.set_cons_succ,i64_w,i32_w]
           rfl
          refine pure_ (i:=25) (N:=some 59) (v:=?_) (a':=?_) #[true,true,true,true,true,true,true,true,true,true,true,true,true,true,true,true,true,true,true,true,true,true,true,true,true,true,false] rfl rfl (any_of HT_.out (by kernel_rfl)) (fun _ _ _ h=>h) (Or.inl ⟨by rfl,?_⟩) ?_ ?_
          rotate_left
          ·intro w'
           go_simp
           with_reducible rfl
          rotate_left
          ·simp only [Act.put,List.setIfInBounds_toArray,List.set_cons_zero,List.set_cons_succ,i64_w,i32_w]
           rfl
          refine pure_ (i:=26) (N:=some 6) (v:=?_) (a':=?_) #[true,true,true,true,true,true,true,true,true,true,true,true,true,true,true,true,true,true,true,true,true,true,true,true,true,true,true] rfl rfl (any_of HT_.out (by kernel_rfl)) (fun _ _ _ h=>h) (Or.inl ⟨by rfl,?_⟩) ?_ ?_
          rotate_left
          ·intro w'
           go_simp
           with_reducible rfl
          rotate_left
          ·simp only [Act.put,List.setIfInBounds_toArray,List.set_cons_zero,List.set_cons_succ,i64_w,i32_w]
           rfl
          refine done_ (done_of HT_.out (by kernel_rfl)) ?_
          try go_wp2
          go_ret
          exact ⟨by first|rfl|(simp [zAP,zAQ] <;> rfl)|(simp [*,zAP,zAQ] <;> rfl),by repeat (first|(with_reducible first|exact HB.out|apply zAB|apply zAA|apply zAE|refine zAF ?_ GE235.out|refine zAF ?_ GE236.out|refine zAF ?_ GE238.out)|exact HB.out)⟩
        ·rw [if_neg c42] at H
         have c42b0:(t248 == t249)=false:=by simpa using c42
         (try (have c42b1:decide (t248=t249)=false:=by simpa using c42))
         (try (have c42b2:(t248 == t249)=false:=by simpa using c42))
         (try (have c42b3 : ¬ (t248=t249):=by simpa using c42))
         clear c42
         obtain rfl:=Option.some.inj H
         have hnb69:=NB238_235.out
         have hnc69:=NB235_238.out
         have hnb70:=NB238_236.out
         have hnc70:=NB236_238.out
         have hcz71_0:wr.cell? ⟨gb238,0,none⟩=some (.string a0_0):=(zAD BK238.out 0).trans rfl
         have hcz71_1:wr.cell? ⟨gb238,1,none⟩=some (.slice A0_1 l0_1.length c0_1):=(zAD BK238.out 1).trans rfl
         have hcz71_2:wr.cell? ⟨gb238,2,none⟩=some (.int .i64 a0_2):=(zAD BK238.out 2).trans rfl
         have hcz71_3:wr.cell? ⟨gb238,3,none⟩=some (u239003):=(zAD BK238.out 3).trans rfl
         have hfz71_0:=zAC BK238.out 0
         have hfz71_1:=zAC BK238.out 1
         have hfz71_2:=zAC BK238.out 2
         have hfz71_3:=zAC BK238.out 3
         obtain ⟨Ao72,co72,eo72⟩:=Kd.N_slice HO_239003.out
         subst eo72
         try go_wp2
         have n0_:=aK_ (Kd.V_drew HO_236003.out)
         have n1_:=aK_ (Kd.N_drew HO_239003.out)
         have n2_:=aK_ (zAI BK235.out)
         have n3_:=aK_ (zAI BK236.out)
         have n4_:=aK_ (zAI BK238.out)
         have n5_:=aK_ (zAE HB.out)
         clear HO_236003
         clear HO_239003
         clear BK235
         clear BK236
         clear BK238
         clear HB
         have HO_236003:=n0_
         have HO_239003:=n1_
         have BK235:=n2_
         have BK236:=n3_
         have BK238:=n4_
         have HB:=n5_
         clear n0_ n1_ n2_ n3_ n4_ n5_
         obtain ⟨Ao74,co74,eo74⟩:=Kd.V_slice HO_236003.out
         (first|subst eo74|(injection eo74 with f1_ f2_ f3_;have f4_:=f1_.symm;have f5_:=f3_.symm;clear f1_ f2_ f3_;subst f4_;subst f5_))
         refine start_ (n:=27) (S:=fun w'=>w'.cell? ⟨gb235,0,none⟩=some (.string a0_0)∧w'.cell? ⟨gb235,1,none⟩=some (.slice A0_1 l0_1.length c0_1)∧w'.cell? ⟨gb235,2,none⟩=some (.int .i64 a0_2)∧w'.cell? ⟨gb235,3,none⟩=some (.slice Ao74 x236003_1.length co74)∧w'.cell? ⟨gb236,0,none⟩=some (.string a1_0)∧w'.cell? ⟨gb236,1,none⟩=some (.slice A1_1 l1_1.length c1_1)∧w'.cell? ⟨gb236,2,none⟩=some (.int .i64 a1_2)∧w'.cell? ⟨gb236,3,none⟩=some (.slice A1_3 l1_3.length c1_3)) (ds:=[]) #[false,false,false,false,false,false,false,false,false,false,false,false,false,false,false,false,false,false,false,false,false,false,false,false,false,false,false] (by kernel_rfl) rfl rfl ⟨(zAD BK235.out 0).trans rfl,(zAD BK235.out 1).trans rfl,(zAD BK235.out 2).trans rfl,(zAD BK235.out 3).trans rfl,(zAD BK236.out 0).trans rfl,(zAD BK236.out 1).trans rfl,(zAD BK236.out 2).trans rfl,(zAD BK236.out 3).trans rfl⟩ (fun hHeld=>?_);refine with_tabW zAW.tab11 zAW.bits11 (fun HT_ HW_=>?_)
         generalize wr.drew=w73 at HO_236003 HO_239003 BK235 BK236 BK238 HB hHeld ⊢
         refine take_ (i:=0) (N:=some 34) (v:=?_) (a':=?_) #[true,false,false,false,false,false,false,false,false,false,false,false,false,false,false,false,false,false,false,false,false,false,false,false,false,false,false] rfl rfl (take_ofW HT_.out HW_.out (by kernel_rfl)) (fun _ _ _ h=>h) (Or.inl ⟨by rfl,?_⟩) hHeld ?_ ?_
         rotate_left
         ·rintro w' ⟨s0,s1,s2,s3,s4,s5,s6,s7⟩
          go_simp
          with_reducible rfl
         rotate_left
         ·simp only [Act.put,List.setIfInBounds_toArray,List.set_cons_zero,List.set_cons_succ,i64_w,i32_w]
          rfl
         refine take_ (i:=1) (N:=some 35) (v:=?_) (a':=?_) #[true,true,false,false,false,false,false,false,false,false,false,false,false,false,false,false,false,false,false,false,false,false,false,false,false,false,false] rfl rfl (take_ofW HT_.out HW_.out (by kernel_rfl)) (fun _ _ _ h=>h) (Or.inl ⟨by rfl,?_⟩) hHeld ?_ ?_
         rotate_left
         ·rintro w' ⟨s0,s1,s2,s3,s4,s5,s6,s7⟩
          go_simp
          with_reducible rfl
         rotate_left
         ·simp only [Act.put,List.setIfInBounds_toArray,List.set_cons_zero,List.set_cons_succ,i64_w,i32_w]
          rfl
         refine take_ (i:=3) (N:=some 37) (v:=?_) (a':=?_) #[true,true,false,true,false,false,false,false,false,false,false,false,false,false,false,false,false,false,false,false,false,false,false,false,false,false,false] rfl rfl (take_ofW HT_.out HW_.out (by kernel_rfl)) (fun _ _ _ h=>h) (Or.inl ⟨by rfl,?_⟩) hHeld ?_ ?_
         rotate_left
         ·rintro w' ⟨s0,s1,s2,s3,s4,s5,s6,s7⟩
          go_simp
          with_reducible rfl
         rotate_left
         ·simp only [Act.put,List.setIfInBounds_toArray,List.set_cons_zero,List.set_cons_succ,i64_w,i32_w]
          rfl
         refine take_ (i:=4) (N:=some 38) (v:=?_) (a':=?_) #[true,true,false,true,true,false,false,false,false,false,false,false,false,false,false,false,false,false,false,false,false,false,false,false,false,false,false] rfl rfl (take_ofW HT_.out HW_.out (by kernel_rfl)) (fun _ _ _ h=>h) (Or.inl ⟨by rfl,?_⟩) hHeld ?_ ?_
         rotate_left
         ·rintro w' ⟨s0,s1,s2,s3,s4,s5,s6,s7⟩
          go_simp
          with_reducible rfl
         rotate_left
         ·simp only [Act.put,List.setIfInBounds_toArray,List.set_cons_zero,List.set_cons_succ,i64_w,i32_w]
          rfl
         refine one_ (i:=2) (N:=some 36) #[true,true,true,true,true,false,false,false,false,false,false,false,false,false,false,false,false,false,false,false,false,false,false,false,false,false,false] rfl rfl (one_of HT_.out (by kernel_rfl)) (by decide) (fun K hK=>?_)
         refine goes_ Tryd.func18 (by kernel_rfl) rfl #[.agg #[.string a0_0,.slice A0_1 l0_1.length c0_1,.int .i64 a0_2,.slice Ao74 x236003_1.length co74],.agg #[.string a1_0,.slice A1_1 l1_1.length c1_1,.int .i64 a1_2,.slice A1_3 l1_3.length c1_3]] (by rfl) rfl rfl (by (try simp only [List.map_toArray,List.map_cons,List.map_nil]);first|done|rfl|(simp only [List.length_drop,List.length_take];rfl)) ?_
         with_reducible refine (tree_Same.calls k1 a0_0 _ _ l0_1 a0_2 _ _ x236003_1 a1_0 _ _ l1_1 a1_2 _ _ l1_3 t246 _ ?side1 ?side2 ?side3 ?side4 ?side5 ?side6 ?side7 ?side8 A37.out).mono ?_
         (case side1=>repeat (first|exact (Kd.C_below HR0_1.out HB.out)|(with_reducible refine Kd.C_alloc ?_ _)|(with_reducible refine Kd.C_drewN ?_ _)|(with_reducible refine Kd.C_drew ?_)))
         (case side2=>exact HC0_1.out)
         (case side3=>repeat (first|exact (Kd.V_reads' HO_236003.out).2.2|(with_reducible refine Kd.C_alloc ?_ _)|(with_reducible refine Kd.C_drewN ?_ _)|(with_reducible refine Kd.C_drew ?_)))
         (case side4=>exact (Kd.V_reads' HO_236003.out).2.1)
         (case side5=>repeat (first|exact (Kd.C_below HR1_1.out HB.out)|(with_reducible refine Kd.C_alloc ?_ _)|(with_reducible refine Kd.C_drewN ?_ _)|(with_reducible refine Kd.C_drew ?_)))
         (case side6=>exact HC1_1.out)
         (case side7=>repeat (first|exact (Kd.C_below HR1_3.out HB.out)|(with_reducible refine Kd.C_alloc ?_ _)|(with_reducible refine Kd.C_drewN ?_ _)|(with_reducible refine Kd.C_drew ?_)))
         (case side8=>exact HC1_3.out)
         rintro e w75 ⟨rfl,hb⟩
         refine ⟨_,rfl,?_⟩
         have n0_:=aK_ (Kd.V_below (by (with_reducible repeat (first|apply Kd.V_alloc|apply Kd.V_drewN|apply Kd.V_drew));exact HO_236003.out) hb)
         have n1_:=aK_ (Kd.N_below (by (with_reducible repeat (first|apply Kd.N_alloc|apply Kd.N_drewN|apply Kd.N_drew));exact HO_239003.out) hb)
         have n2_:=aK_ (zAV (g:=gb235) (o:=.cells #[.string a0_0,.slice A0_1 l0_1.length c0_1,.int .i64 a0_2,.slice Ao74 x236003_1.length co74] 25 (0,0)) (by (with_reducible repeat (first|refine zAG ?_ _|refine zAI ?_|refine zAH ?_ _));exact BK235.out) hb)
         have n3_:=aK_ (zAV (g:=gb236) (o:=.cells #[.string a1_0,.slice A1_1 l1_1.length c1_1,.int .i64 a1_2,.slice A1_3 l1_3.length c1_3] 25 (0,0)) (by (with_reducible repeat (first|refine zAG ?_ _|refine zAI ?_|refine zAH ?_ _));exact BK236.out) hb)
         have n4_:=aK_ (zAV (g:=gb238) (o:=.cells #[.string a0_0,.slice A0_1 l0_1.length c0_1,.int .i64 a0_2,.slice Ao72 x239003_1.length co72] 25 (0,0)) (by (with_reducible repeat (first|refine zAG ?_ _|refine zAI ?_|refine zAH ?_ _));exact BK238.out) hb)
         have n5_:=aK_ (zAN (by repeat (first|(with_reducible first|exact HB.out|apply zAB|apply zAA|apply zAE|refine zAF ?_ GE235.out|refine zAF ?_ GE236.out|refine zAF ?_ GE238.out)|exact HB.out)) hb)
         clear HO_236003
         clear HO_239003
         clear BK235
         clear BK236
         clear BK238
         clear HB
         have HO_236003:=n0_
         have HO_239003:=n1_
         have BK235:=n2_
         have BK236:=n3_
         have BK238:=n4_
         have HB:=n5_
         clear n0_ n1_ n2_ n3_ n4_ n5_
         (try clear hb)
         (try clear hb2)
         (try clear hk)
         (try clear hi)
         refine hK.out _ _ ⟨(zAD BK235.out 0).trans rfl,(zAD BK235.out 1).trans rfl,(zAD BK235.out 2).trans rfl,(zAD BK235.out 3).trans rfl,(zAD BK236.out 0).trans rfl,(zAD BK236.out 1).trans rfl,(zAD BK236.out 2).trans rfl,(zAD BK236.out 3).trans rfl⟩ (fun hHeld=>?_)
         clear hK K
         refine norm_ (a':=?_) ?_ ?_
         rotate_left
         ·show Act.put _ (some 36) _=_
          simp only [Act.put,List.setIfInBounds_toArray,List.set_cons_zero,List.set_cons_succ,i64_w,i32_w]
          rfl
         refine one_ (i:=5) (N:=some 39) #[true,true,true,true,true,true,false,false,false,false,false,false,false,false,false,false,false,false,false,false,false,false,false,false,false,false,false] rfl rfl (one_of HT_.out (by kernel_rfl)) (by decide) (fun K hK=>?_)
         refine goes_ Tryd.func19 (by kernel_rfl) rfl #[.agg #[.string a0_0,.slice A0_1 l0_1.length c0_1,.int .i64 a0_2,.slice Ao74 x236003_1.length co74],.agg #[.string a1_0,.slice A1_1 l1_1.length c1_1,.int .i64 a1_2,.slice A1_3 l1_3.length c1_3]] (by rfl) rfl rfl (by (try simp only [List.map_toArray,List.map_cons,List.map_nil]);first|done|rfl|(simp only [List.length_drop,List.length_take];rfl)) ?_
         with_reducible refine (zAL.calls k1 a0_0 _ _ l0_1 a0_2 _ _ x236003_1 a1_0 _ _ l1_1 a1_2 _ _ l1_3 t247 _ ?side1 ?side2 ?side3 ?side4 ?side5 ?side6 ?side7 ?side8 A38.out).mono ?_
         (case side1=>repeat (first|exact (Kd.C_below HR0_1.out HB.out)|(with_reducible refine Kd.C_alloc ?_ _)|(with_reducible refine Kd.C_drewN ?_ _)|(with_reducible refine Kd.C_drew ?_)))
         (case side2=>exact HC0_1.out)
         (case side3=>repeat (first|exact (Kd.V_reads' HO_236003.out).2.2|(with_reducible refine Kd.C_alloc ?_ _)|(with_reducible refine Kd.C_drewN ?_ _)|(with_reducible refine Kd.C_drew ?_)))
         (case side4=>exact (Kd.V_reads' HO_236003.out).2.1)
         (case side5=>repeat (first|exact (Kd.C_below HR1_1.out HB.out)|(with_reducible refine Kd.C_alloc ?_ _)|(with_reducible refine Kd.C_drewN ?_ _)|(with_reducible refine Kd.C_drew ?_)))
         (case side6=>exact HC1_1.out)
         (case side7=>repeat (first|exact (Kd.C_below HR1_3.out HB.out)|(with_reducible refine Kd.C_alloc ?_ _)|(with_reducible refine Kd.C_drewN ?_ _)|(with_reducible refine Kd.C_drew ?_)))
         (case side8=>exact HC1_3.out)
         rintro e w76 ⟨rfl,hb⟩
         refine ⟨_,rfl,?_⟩
         have n0_:=aK_ (Kd.V_below (by (with_reducible repeat (first|apply Kd.V_alloc|apply Kd.V_drewN|apply Kd.V_drew));exact HO_236003.out) hb)
         have n1_:=aK_ (Kd.N_below (by (with_reducible repeat (first|apply Kd.N_alloc|apply Kd.N_drewN|apply Kd.N_drew));exact HO_239003.out) hb)
         have n2_:=aK_ (zAV (g:=gb235) (o:=.cells #[.string a0_0,.slice A0_1 l0_1.length c0_1,.int .i64 a0_2,.slice Ao74 x236003_1.length co74] 25 (0,0)) (by (with_reducible repeat (first|refine zAG ?_ _|refine zAI ?_|refine zAH ?_ _));exact BK235.out) hb)
         have n3_:=aK_ (zAV (g:=gb236) (o:=.cells #[.string a1_0,.slice A1_1 l1_1.length c1_1,.int .i64 a1_2,.slice A1_3 l1_3.length c1_3] 25 (0,0)) (by (with_reducible repeat (first|refine zAG ?_ _|refine zAI ?_|refine zAH ?_ _));exact BK236.out) hb)
         have n4_:=aK_ (zAV (g:=gb238) (o:=.cells #[.string a0_0,.slice A0_1 l0_1.length c0_1,.int .i64 a0_2,.slice Ao72 x239003_1.length co72] 25 (0,0)) (by (with_reducible repeat (first|refine zAG ?_ _|refine zAI ?_|refine zAH ?_ _));exact BK238.out) hb)
         have n5_:=aK_ (zAN (by repeat (first|(with_reducible first|exact HB.out|apply zAB|apply zAA|apply zAE|refine zAF ?_ GE235.out|refine zAF ?_ GE236.out|refine zAF ?_ GE238.out)|exact HB.out)) hb)
         clear HO_236003
         clear HO_239003
         clear BK235
         clear BK236
         clear BK238
         clear HB
         have HO_236003:=n0_
         have HO_239003:=n1_
         have BK235:=n2_
         have BK236:=n3_
         have BK238:=n4_
         have HB:=n5_
         clear n0_ n1_ n2_ n3_ n4_ n5_
         (try clear hb)
         (try clear hb2)
         (try clear hk)
         (try clear hi)
         refine hK.out _ _ ⟨(zAD BK235.out 0).trans rfl,(zAD BK235.out 1).trans rfl,(zAD BK235.out 2).trans rfl,(zAD BK235.out 3).trans rfl,(zAD BK236.out 0).trans rfl,(zAD BK236.out 1).trans rfl,(zAD BK236.out 2).trans rfl,(zAD BK236.out 3).trans rfl⟩ (fun hHeld=>?_)
         clear hK K
         refine norm_ (a':=?_) ?_ ?_
         rotate_left
         ·show Act.put _ (some 39) _=_
          simp only [Act.put,List.setIfInBounds_toArray,List.set_cons_zero,List.set_cons_succ,i64_w,i32_w]
          rfl
         refine pure_ (i:=6) (N:=some 40) (v:=?_) (a':=?_) #[true,true,true,true,true,true,true,false,false,false,false,false,false,false,false,false,false,false,false,false,false,false,false,false,false,false,false] rfl rfl (any_of HT_.out (by kernel_rfl)) (fun _ _ _ h=>h) (Or.inl ⟨by rfl,?_⟩) ?_ ?_
         rotate_left
         ·intro w'
          go_simp
          with_reducible rfl
         rotate_left
         ·simp only [Act.put,List.setIfInBounds_toArray,List.set_cons_zero,List.set_cons_succ,i64_w,i32_w]
          rfl
         refine pure_ (i:=7) (N:=some 41) (v:=?_) (a':=?_) #[true,true,true,true,true,true,true,true,false,false,false,false,false,false,false,false,false,false,false,false,false,false,false,false,false,false,false] rfl rfl (any_of HT_.out (by kernel_rfl)) (fun _ _ _ h=>h) (Or.inl ⟨by rfl,?_⟩) ?_ ?_
         rotate_left
         ·intro w'
          go_simp
          with_reducible rfl
         rotate_left
         ·simp only [Act.put,List.setIfInBounds_toArray,List.set_cons_zero,List.set_cons_succ,i64_w,i32_w]
          rfl
         refine take_ (i:=8) (N:=some 42) (v:=?_) (a':=?_) #[true,true,true,true,true,true,true,true,true,false,false,false,false,false,false,false,false,false,false,false,false,false,false,false,false,false,false] rfl rfl (take_ofW HT_.out HW_.out (by kernel_rfl)) (fun _ _ _ h=>h) (Or.inl ⟨by rfl,?_⟩) hHeld ?_ ?_
         rotate_left
         ·rintro w' ⟨s0,s1,s2,s3,s4,s5,s6,s7⟩
          go_simp
          with_reducible rfl
         rotate_left
         ·simp only [Act.put,List.setIfInBounds_toArray,List.set_cons_zero,List.set_cons_succ,i64_w,i32_w]
          rfl
         refine take_ (i:=9) (N:=some 43) (v:=?_) (a':=?_) #[true,true,true,true,true,true,true,true,true,true,false,false,false,false,false,false,false,false,false,false,false,false,false,false,false,false,false] rfl rfl (take_ofW HT_.out HW_.out (by kernel_rfl)) (fun _ _ _ h=>h) (Or.inl ⟨by rfl,?_⟩) hHeld ?_ ?_
         rotate_left
         ·rintro w' ⟨s0,s1,s2,s3,s4,s5,s6,s7⟩
          go_simp
          with_reducible rfl
         rotate_left
         ·simp only [Act.put,List.setIfInBounds_toArray,List.set_cons_zero,List.set_cons_succ,i64_w,i32_w]
          rfl
         refine take_ (i:=11) (N:=some 45) (v:=?_) (a':=?_) #[true,true,true,true,true,true,true,true,true,true,false,true,false,false,false,false,false,false,false,false,false,false,false,false,false,false,false] rfl rfl (take_ofW HT_.out HW_.out (by kernel_rfl)) (fun _ _ _ h=>h) (Or.inl ⟨by rfl,?_⟩) hHeld ?_ ?_
         rotate_left
         ·rintro w' ⟨s0,s1,s2,s3,s4,s5,s6,s7⟩
          go_simp
          with_reducible rfl
         rotate_left
         ·simp only [Act.put,List.setIfInBounds_toArray,List.set_cons_zero,List.set_cons_succ,i64_w,i32_w]
          rfl
         refine take_ (i:=12) (N:=some 46) (v:=?_) (a':=?_) #[true,true,true,true,true,true,true,true,true,true,false,true,true,false,false,false,false,false,false,false,false,false,false,false,false,false,false] rfl rfl (take_ofW HT_.out HW_.out (by kernel_rfl)) (fun _ _ _ h=>h) (Or.inl ⟨by rfl,?_⟩) hHeld ?_ ?_
         rotate_left
         ·rintro w' ⟨s0,s1,s2,s3,s4,s5,s6,s7⟩
          go_simp
          with_reducible rfl
         rotate_left
         ·simp only [Act.put,List.setIfInBounds_toArray,List.set_cons_zero,List.set_cons_succ,i64_w,i32_w]
          rfl
         refine one_ (i:=10) (N:=some 44) #[true,true,true,true,true,true,true,true,true,true,true,true,true,false,false,false,false,false,false,false,false,false,false,false,false,false,false] rfl rfl (one_of HT_.out (by kernel_rfl)) (by decide) (fun K hK=>?_)
         refine goes_ Tryd.func18 (by kernel_rfl) rfl #[.agg #[.string a1_0,.slice A1_1 l1_1.length c1_1,.int .i64 a1_2,.slice A1_3 l1_3.length c1_3],.agg #[.string a0_0,.slice A0_1 l0_1.length c0_1,.int .i64 a0_2,.slice Ao74 x236003_1.length co74]] (by rfl) rfl rfl (by (try simp only [List.map_toArray,List.map_cons,List.map_nil]);first|done|rfl|(simp only [List.length_drop,List.length_take];rfl)) ?_
         with_reducible refine (tree_Same.calls k1 a1_0 _ _ l1_1 a1_2 _ _ l1_3 a0_0 _ _ l0_1 a0_2 _ _ x236003_1 t248 _ ?side1 ?side2 ?side3 ?side4 ?side5 ?side6 ?side7 ?side8 A40.out).mono ?_
         (case side1=>repeat (first|exact (Kd.C_below HR1_1.out HB.out)|(with_reducible refine Kd.C_alloc ?_ _)|(with_reducible refine Kd.C_drewN ?_ _)|(with_reducible refine Kd.C_drew ?_)))
         (case side2=>exact HC1_1.out)
         (case side3=>repeat (first|exact (Kd.C_below HR1_3.out HB.out)|(with_reducible refine Kd.C_alloc ?_ _)|(with_reducible refine Kd.C_drewN ?_ _)|(with_reducible refine Kd.C_drew ?_)))
         (case side4=>exact HC1_3.out)
         (case side5=>repeat (first|exact (Kd.C_below HR0_1.out HB.out)|(with_reducible refine Kd.C_alloc ?_ _)|(with_reducible refine Kd.C_drewN ?_ _)|(with_reducible refine Kd.C_drew ?_)))
         (case side6=>exact HC0_1.out)
         (case side7=>repeat (first|exact (Kd.V_reads' HO_236003.out).2.2|(with_reducible refine Kd.C_alloc ?_ _)|(with_reducible refine Kd.C_drewN ?_ _)|(with_reducible refine Kd.C_drew ?_)))
         (case side8=>exact (Kd.V_reads' HO_236003.out).2.1)
         rintro e w77 ⟨rfl,hb⟩
         refine ⟨_,rfl,?_⟩
         have n0_:=aK_ (Kd.V_below (by (with_reducible repeat (first|apply Kd.V_alloc|apply Kd.V_drewN|apply Kd.V_drew));exact HO_236003.out) hb)
         have n1_:=aK_ (Kd.N_below (by (with_reducible repeat (first|apply Kd.N_alloc|apply Kd.N_drewN|apply Kd.N_drew));exact HO_239003.out) hb)
         have n2_:=aK_ (zAV (g:=gb235) (o:=.cells #[.string a0_0,.slice A0_1 l0_1.length c0_1,.int .i64 a0_2,.slice Ao74 x236003_1.length co74] 25 (0,0)) (by (with_reducible repeat (first|refine zAG ?_ _|refine zAI ?_|refine zAH ?_ _));exact BK235.out) hb)
         have n3_:=aK_ (zAV (g:=gb236) (o:=.cells #[.string a1_0,.slice A1_1 l1_1.length c1_1,.int .i64 a1_2,.slice A1_3 l1_3.length c1_3] 25 (0,0)) (by (with_reducible repeat (first|refine zAG ?_ _|refine zAI ?_|refine zAH ?_ _));exact BK236.out) hb)
         have n4_:=aK_ (zAV (g:=gb238) (o:=.cells #[.string a0_0,.slice A0_1 l0_1.length c0_1,.int .i64 a0_2,.slice Ao72 x239003_1.length co72] 25 (0,0)) (by (with_reducible repeat (first|refine zAG ?_ _|refine zAI ?_|refine zAH ?_ _));exact BK238.out) hb)
         have n5_:=aK_ (zAN (by repeat (first|(with_reducible first|exact HB.out|apply zAB|apply zAA|apply zAE|refine zAF ?_ GE235.out|refine zAF ?_ GE236.out|refine zAF ?_ GE238.out)|exact HB.out)) hb)
         clear HO_236003
         clear HO_239003
         clear BK235
         clear BK236
         clear BK238
         clear HB
         have HO_236003:=n0_
         have HO_239003:=n1_
         have BK235:=n2_
         have BK236:=n3_
         have BK238:=n4_
         have HB:=n5_
         clear n0_ n1_ n2_ n3_ n4_ n5_
         (try clear hb)
         (try clear hb2)
         (try clear hk)
         (try clear hi)
         refine hK.out _ _ ⟨(zAD BK235.out 0).trans rfl,(zAD BK235.out 1).trans rfl,(zAD BK235.out 2).trans rfl,(zAD BK235.out 3).trans rfl,(zAD BK236.out 0).trans rfl,(zAD BK236.out 1).trans rfl,(zAD BK236.out 2).trans rfl,(zAD BK236.out 3).trans rfl⟩ (fun hHeld=>?_)
         clear hK K
         refine norm_ (a':=?_) ?_ ?_
         rotate_left
         ·show Act.put _ (some 44) _=_
          simp only [Act.put,List.setIfInBounds_toArray,List.set_cons_zero,List.set_cons_succ,i64_w,i32_w]
          rfl
         refine one_ (i:=13) (N:=some 47) #[true,true,true,true,true,true,true,true,true,true,true,true,true,true,false,false,false,false,false,false,false,false,false,false,false,false,false] rfl rfl (one_of HT_.out (by kernel_rfl)) (by decide) (fun K hK=>?_)
         refine goes_ Tryd.func18 (by kernel_rfl) rfl #[.agg #[.string a0_0,.slice A0_1 l0_1.length c0_1,.int .i64 a0_2,.slice Ao74 x236003_1.length co74],.agg #[.string a1_0,.slice A1_1 l1_1.length c1_1,.int .i64 a1_2,.slice A1_3 l1_3.length c1_3]] (by rfl) rfl rfl (by (try simp only [List.map_toArray,List.map_cons,List.map_nil]);first|done|rfl|(simp only [List.length_drop,List.length_take];rfl)) ?_
         with_reducible refine (tree_Same.calls k1 a0_0 _ _ l0_1 a0_2 _ _ x236003_1 a1_0 _ _ l1_1 a1_2 _ _ l1_3 t249 _ ?side1 ?side2 ?side3 ?side4 ?side5 ?side6 ?side7 ?side8 A41.out).mono ?_
         (case side1=>repeat (first|exact (Kd.C_below HR0_1.out HB.out)|(with_reducible refine Kd.C_alloc ?_ _)|(with_reducible refine Kd.C_drewN ?_ _)|(with_reducible refine Kd.C_drew ?_)))
         (case side2=>exact HC0_1.out)
         (case side3=>repeat (first|exact (Kd.V_reads' HO_236003.out).2.2|(with_reducible refine Kd.C_alloc ?_ _)|(with_reducible refine Kd.C_drewN ?_ _)|(with_reducible refine Kd.C_drew ?_)))
         (case side4=>exact (Kd.V_reads' HO_236003.out).2.1)
         (case side5=>repeat (first|exact (Kd.C_below HR1_1.out HB.out)|(with_reducible refine Kd.C_alloc ?_ _)|(with_reducible refine Kd.C_drewN ?_ _)|(with_reducible refine Kd.C_drew ?_)))
         (case side6=>exact HC1_1.out)
         (case side7=>repeat (first|exact (Kd.C_below HR1_3.out HB.out)|(with_reducible refine Kd.C_alloc ?_ _)|(with_reducible refine Kd.C_drewN ?_ _)|(with_reducible refine Kd.C_drew ?_)))
         (case side8=>exact HC1_3.out)
         rintro e w78 ⟨rfl,hb⟩
         refine ⟨_,rfl,?_⟩
         have n0_:=aK_ (Kd.V_below (by (with_reducible repeat (first|apply Kd.V_alloc|apply Kd.V_drewN|apply Kd.V_drew));exact HO_236003.out) hb)
         have n1_:=aK_ (Kd.N_below (by (with_reducible repeat (first|apply Kd.N_alloc|apply Kd.N_drewN|apply Kd.N_drew));exact HO_239003.out) hb)
         have n2_:=aK_ (zAV (g:=gb235) (o:=.cells #[.string a0_0,.slice A0_1 l0_1.length c0_1,.int .i64 a0_2,.slice Ao74 x236003_1.length co74] 25 (0,0)) (by (with_reducible repeat (first|refine zAG ?_ _|refine zAI ?_|refine zAH ?_ _));exact BK235.out) hb)
         have n3_:=aK_ (zAV (g:=gb236) (o:=.cells #[.string a1_0,.slice A1_1 l1_1.length c1_1,.int .i64 a1_2,.slice A1_3 l1_3.length c1_3] 25 (0,0)) (by (with_reducible repeat (first|refine zAG ?_ _|refine zAI ?_|refine zAH ?_ _));exact BK236.out) hb)
         have n4_:=aK_ (zAV (g:=gb238) (o:=.cells #[.string a0_0,.slice A0_1 l0_1.length c0_1,.int .i64 a0_2,.slice Ao72 x239003_1.length co72] 25 (0,0)) (by (with_reducible repeat (first|refine zAG ?_ _|refine zAI ?_|refine zAH ?_ _));exact BK238.out) hb)
         have n5_:=aK_ (zAN (by repeat (first|(with_reducible first|exact HB.out|apply zAB|apply zAA|apply zAE|refine zAF ?_ GE235.out|refine zAF ?_ GE236.out|refine zAF ?_ GE238.out)|exact HB.out)) hb)
         clear HO_236003
         clear HO_239003
         clear BK235
         clear BK236
         clear BK238
         clear HB
         have HO_236003:=n0_
         have HO_239003:=n1_
         have BK235:=n2_
         have BK236:=n3_
         have BK238:=n4_
         have HB:=n5_
         clear n0_ n1_ n2_ n3_ n4_ n5_
         (try clear hb)
         (try clear hb2)
         (try clear hk)
         (try clear hi)
         refine hK.out _ _ ⟨(zAD BK235.out 0).trans rfl,(zAD BK235.out 1).trans rfl,(zAD BK235.out 2).trans rfl,(zAD BK235.out 3).trans rfl,(zAD BK236.out 0).trans rfl,(zAD BK236.out 1).trans rfl,(zAD BK236.out 2).trans rfl,(zAD BK236.out 3).trans rfl⟩ (fun hHeld=>?_)
         clear hK K
         refine norm_ (a':=?_) ?_ ?_
         rotate_left
         ·show Act.put _ (some 47) _=_
          simp only [Act.put,List.setIfInBounds_toArray,List.set_cons_zero,List.set_cons_succ,i64_w,i32_w]
          rfl
         refine pure_ (i:=14) (N:=some 48) (v:=?_) (a':=?_) #[true,true,true,true,true,true,true,true,true,true,true,true,true,true,true,false,false,false,false,false,false,false,false,false,false,false,false] rfl rfl (any_of HT_.out (by kernel_rfl)) (fun _ _ _ h=>h) (Or.inl ⟨by rfl,?_⟩) ?_ ?_
         rotate_left
         ·intro w'
          go_simp
          with_reducible rfl
         rotate_left
         ·simp only [Act.put,List.setIfInBounds_toArray,List.set_cons_zero,List.set_cons_succ,i64_w,i32_w]
          rfl
         refine pure_ (i:=15) (N:=some 49) (v:=?_) (a':=?_) #[true,true,true,true,true,true,true,true,true,true,true,true,true,true,true,true,false,false,false,false,false,false,false,false,false,false,false] rfl rfl (any_of HT_.out (by kernel_rfl)) (fun _ _ _ h=>h) (Or.inl ⟨by rfl,?_⟩) ?_ ?_
         rotate_left
         ·intro w'
          go_simp
          with_reducible rfl
         rotate_left
         ·simp only [Act.put,List.setIfInBounds_toArray,List.set_cons_zero,List.set_cons_succ,i64_w,i32_w]
          rfl
         refine pure_ (i:=16) (N:=some 50) (v:=?_) (a':=?_) #[true,true,true,true,true,true,true,true,true,true,true,true,true,true,true,true,true,false,false,false,false,false,false,false,false,false,false] rfl rfl (any_of HT_.out (by kernel_rfl)) (fun _ _ _ h=>h) (Or.inl ⟨by rfl,?_⟩) ?_ ?_
         rotate_left
         ·intro w'
          go_simp
          with_reducible rfl
         rotate_left
         ·simp only [Act.put,List.setIfInBounds_toArray,List.set_cons_zero,List.set_cons_succ,i64_w,i32_w]
          rfl
         refine pure_ (i:=17) (N:=some 51) (v:=undef) (a':=?_) #[true,true,true,true,true,true,true,true,true,true,true,true,true,true,true,true,true,true,false,false,false,false,false,false,false,false,false] rfl rfl (any_of HT_.out (by kernel_rfl)) (fun _ _ _ h=>h) (Or.inr ⟨by rfl,rfl⟩) ?_ ?_
         rotate_left
         ·simp only [Act.put,List.setIfInBounds_toArray,List.set_cons_zero,List.set_cons_succ,i64_w,i32_w]
          rfl
         refine pure_ (i:=18) (N:=some 52) (v:=undef) (a':=?_) #[true,true,true,true,true,true,true,true,true,true,true,true,true,true,true,true,true,true,true,false,false,false,false,false,false,false,false] rfl rfl (any_of HT_.out (by kernel_rfl)) (fun _ _ _ h=>h) (Or.inr ⟨by rfl,rfl⟩) ?_ ?_
         rotate_left
         ·simp only [Act.put,List.setIfInBounds_toArray,List.set_cons_zero,List.set_cons_succ,i64_w,i32_w]
          rfl
         refine pure_ (i:=19) (N:=some 53) (v:=undef) (a':=?_) #[true,true,true,true,true,true,true,true,true,true,true,true,true,true,true,true,true,true,true,true,false,false,false,false,false,false,false] rfl rfl (any_of HT_.out (by kernel_rfl)) (fun _ _ _ h=>h) (Or.inr ⟨by rfl,rfl⟩) ?_ ?_
         rotate_left
         ·simp only [Act.put,List.setIfInBounds_toArray,List.set_cons_zero,List.set_cons_succ,i64_w,i32_w]
          rfl
         refine pure_ (i:=20) (N:=some 54) (v:=?_) (a':=?_) #[true,true,true,true,true,true,true,true,true,true,true,true,true,true,true,true,true,true,true,true,true,false,false,false,false,false,false] rfl rfl (any_of HT_.out (by kernel_rfl)) (fun _ _ _ h=>h) (Or.inl ⟨by rfl,?_⟩) ?_ ?_
         rotate_left
         ·intro w'
          go_simp
          with_reducible rfl
         rotate_left
         ·simp only [Act.put,List.setIfInBounds_toArray,List.set_cons_zero,List.set_cons_succ,i64_w,i32_w]
          rfl
         refine pure_ (i:=21) (N:=some 55) (v:=?_) (a':=?_) #[true,true,true,true,true,true,true,true,true,true,true,true,true,true,true,true,true,true,true,true,true,true,false,false,false,false,false] rfl rfl (any_of HT_.out (by kernel_rfl)) (fun _ _ _ h=>h) (Or.inl ⟨by rfl,?_⟩) ?_ ?_
         rotate_left
         ·intro w'
          go_simp
          with_reducible rfl
         rotate_left
         ·simp only [Act.put,List.setIfInBounds_toArray,List.set_cons_zero,List.set_cons_succ,i64_w,i32_w]
          rfl
         refine pure_ (i:=22) (N:=some 56) (v:=undef) (a':=?_) #[true,true,true,true,true,true,true,true,true,true,true,true,true,true,true,true,true,true,true,true,true,true,true,false,false,false,false] rfl rfl (any_of HT_.out (by kernel_rfl)) (fun _ _ _ h=>h) (Or.inr ⟨by rfl,rfl⟩) ?_ ?_
         rotate_left
         ·simp only [Act.put,List.setIfInBounds_toArray,List.set_cons_zero,List.set_cons_succ,i64_w,i32_w]
          rfl
         refine pure_ (i:=23) (N:=some 57) (v:=undef) (a':=?_) #[true,true,true,true,true,true,true,true,true,true,true,true,true,true,true,true,true,true,true,true,true,true,true,true,false,false,false] rfl rfl (any_of HT_.out (by kernel_rfl)) (fun _ _ _ h=>h) (Or.inr ⟨by rfl,rfl⟩) ?_ ?_
         rotate_left
         ·simp only [Act.put,List.setIfInBounds_toArray,List.set_cons_zero,List.set_cons_succ,i64_w,i32_w]
          rfl
         refine pure_ (i:=24) (N:=some 58) (v:=undef) (a':=?_) #[true,true,true,true,true,true,true,true,true,true,true,true,true,true,true,true,true,true,true,true,true,true,true,true,true,false,false] rfl rfl (any_of HT_.out (by kernel_rfl)) (fun _ _ _ h=>h) (Or.inr ⟨by rfl,rfl⟩) ?_ ?_
         rotate_left
         ·simp only [Act.put,List.setIfInBounds_toArray,List.set_cons_zero,List.set_cons_succ,i64_w,i32_w]
          rfl
         refine pure_ (i:=25) (N:=some 59) (v:=?_) (a':=?_) #[true,true,true,true,true,true,true,true,true,true,true,true,true,true,true,true,true,true,true,true,true,true,true,true,true,true,false] rfl rfl (any_of HT_.out (by kernel_rfl)) (fun _ _ _ h=>h) (Or.inl ⟨by rfl,?_⟩) ?_ ?_
         rotate_left
         ·intro w'
          go_simp
          with_reducible rfl
         rotate_left
         ·simp only [Act.put,List.setIfInBounds_toArray,List.set_cons_zero,List.set_cons_succ,i64_w,i32_w]
          rfl
         refine pure_ (i:=26) (N:=some 6) (v:=?_) (a':=?_) #[true,true,true,true,true,true,true,true,true,true,true,true,true,true,true,true,true,true,true,true,true,true,true,true,true,true,true] rfl rfl (any_of HT_.out (by kernel_rfl)) (fun _ _ _ h=>h) (Or.inl ⟨by rfl,?_⟩) ?_ ?_
         rotate_left
         ·intro w'
          go_simp
          with_reducible rfl
         rotate_left
         ·simp only [Act.put,List.setIfInBounds_toArray,List.set_cons_zero,List.set_cons_succ,i64_w,i32_w]
          rfl
         refine done_ (done_of HT_.out (by kernel_rfl)) ?_
         try go_wp2
         go_ret
         exact ⟨by first|rfl|(simp [zAP,zAQ] <;> rfl)|(simp [*,zAP,zAQ] <;> rfl),by repeat (first|(with_reducible first|exact HB.out|apply zAB|apply zAA|apply zAE|refine zAF ?_ GE235.out|refine zAF ?_ GE236.out|refine zAF ?_ GE238.out)|exact HB.out)⟩
       ·rw [if_neg c39] at H
        have c39b0:(t246 == t247)=false:=by simpa using c39
        (try (have c39b1:decide (t246=t247)=false:=by simpa using c39))
        (try (have c39b2:(t246 == t247)=false:=by simpa using c39))
        (try (have c39b3 : ¬ (t246=t247):=by simpa using c39))
        clear c39
        obtain rfl:=Option.some.inj H
        have hnb79:=NB238_235.out
        have hnc79:=NB235_238.out
        have hnb80:=NB238_236.out
        have hnc80:=NB236_238.out
        have hcz81_0:wr.cell? ⟨gb238,0,none⟩=some (.string a0_0):=(zAD BK238.out 0).trans rfl
        have hcz81_1:wr.cell? ⟨gb238,1,none⟩=some (.slice A0_1 l0_1.length c0_1):=(zAD BK238.out 1).trans rfl
        have hcz81_2:wr.cell? ⟨gb238,2,none⟩=some (.int .i64 a0_2):=(zAD BK238.out 2).trans rfl
        have hcz81_3:wr.cell? ⟨gb238,3,none⟩=some (u239003):=(zAD BK238.out 3).trans rfl
        have hfz81_0:=zAC BK238.out 0
        have hfz81_1:=zAC BK238.out 1
        have hfz81_2:=zAC BK238.out 2
        have hfz81_3:=zAC BK238.out 3
        obtain ⟨Ao82,co82,eo82⟩:=Kd.N_slice HO_239003.out
        subst eo82
        try go_wp2
        have n0_:=aK_ (Kd.V_drew HO_236003.out)
        have n1_:=aK_ (Kd.N_drew HO_239003.out)
        have n2_:=aK_ (zAI BK235.out)
        have n3_:=aK_ (zAI BK236.out)
        have n4_:=aK_ (zAI BK238.out)
        have n5_:=aK_ (zAE HB.out)
        clear HO_236003
        clear HO_239003
        clear BK235
        clear BK236
        clear BK238
        clear HB
        have HO_236003:=n0_
        have HO_239003:=n1_
        have BK235:=n2_
        have BK236:=n3_
        have BK238:=n4_
        have HB:=n5_
        clear n0_ n1_ n2_ n3_ n4_ n5_
        obtain ⟨Ao84,co84,eo84⟩:=Kd.V_slice HO_236003.out
        (first|subst eo84|(injection eo84 with f1_ f2_ f3_;have f4_:=f1_.symm;have f5_:=f3_.symm;clear f1_ f2_ f3_;subst f4_;subst f5_))
        refine start_ (n:=27) (S:=fun w'=>w'.cell? ⟨gb235,0,none⟩=some (.string a0_0)∧w'.cell? ⟨gb235,1,none⟩=some (.slice A0_1 l0_1.length c0_1)∧w'.cell? ⟨gb235,2,none⟩=some (.int .i64 a0_2)∧w'.cell? ⟨gb235,3,none⟩=some (.slice Ao84 x236003_1.length co84)∧w'.cell? ⟨gb236,0,none⟩=some (.string a1_0)∧w'.cell? ⟨gb236,1,none⟩=some (.slice A1_1 l1_1.length c1_1)∧w'.cell? ⟨gb236,2,none⟩=some (.int .i64 a1_2)∧w'.cell? ⟨gb236,3,none⟩=some (.slice A1_3 l1_3.length c1_3)) (ds:=[]) #[false,false,false,false,false,false,false,false,false,false,false,false,false,false,false,false,false,false,false,false,false,false,false,false,false,false,false] (by kernel_rfl) rfl rfl ⟨(zAD BK235.out 0).trans rfl,(zAD BK235.out 1).trans rfl,(zAD BK235.out 2).trans rfl,(zAD BK235.out 3).trans rfl,(zAD BK236.out 0).trans rfl,(zAD BK236.out 1).trans rfl,(zAD BK236.out 2).trans rfl,(zAD BK236.out 3).trans rfl⟩ (fun hHeld=>?_);refine with_tabW zAW.tab11 zAW.bits11 (fun HT_ HW_=>?_)
        generalize wr.drew=w83 at HO_236003 HO_239003 BK235 BK236 BK238 HB hHeld ⊢
        refine take_ (i:=0) (N:=some 34) (v:=?_) (a':=?_) #[true,false,false,false,false,false,false,false,false,false,false,false,false,false,false,false,false,false,false,false,false,false,false,false,false,false,false] rfl rfl (take_ofW HT_.out HW_.out (by kernel_rfl)) (fun _ _ _ h=>h) (Or.inl ⟨by rfl,?_⟩) hHeld ?_ ?_
        rotate_left
        ·rintro w' ⟨s0,s1,s2,s3,s4,s5,s6,s7⟩
         go_simp
         with_reducible rfl
        rotate_left
        ·simp only [Act.put,List.setIfInBounds_toArray,List.set_cons_zero,List.set_cons_succ,i64_w,i32_w]
         rfl
        refine take_ (i:=1) (N:=some 35) (v:=?_) (a':=?_) #[true,true,false,false,false,false,false,false,false,false,false,false,false,false,false,false,false,false,false,false,false,false,false,false,false,false,false] rfl rfl (take_ofW HT_.out HW_.out (by kernel_rfl)) (fun _ _ _ h=>h) (Or.inl ⟨by rfl,?_⟩) hHeld ?_ ?_
        rotate_left
        ·rintro w' ⟨s0,s1,s2,s3,s4,s5,s6,s7⟩
         go_simp
         with_reducible rfl
        rotate_left
        ·simp only [Act.put,List.setIfInBounds_toArray,List.set_cons_zero,List.set_cons_succ,i64_w,i32_w]
         rfl
        refine take_ (i:=3) (N:=some 37) (v:=?_) (a':=?_) #[true,true,false,true,false,false,false,false,false,false,false,false,false,false,false,false,false,false,false,false,false,false,false,false,false,false,false] rfl rfl (take_ofW HT_.out HW_.out (by kernel_rfl)) (fun _ _ _ h=>h) (Or.inl ⟨by rfl,?_⟩) hHeld ?_ ?_
        rotate_left
        ·rintro w' ⟨s0,s1,s2,s3,s4,s5,s6,s7⟩
         go_simp
         with_reducible rfl
        rotate_left
        ·simp only [Act.put,List.setIfInBounds_toArray,List.set_cons_zero,List.set_cons_succ,i64_w,i32_w]
         rfl
        refine take_ (i:=4) (N:=some 38) (v:=?_) (a':=?_) #[true,true,false,true,true,false,false,false,false,false,false,false,false,false,false,false,false,false,false,false,false,false,false,false,false,false,false] rfl rfl (take_ofW HT_.out HW_.out (by kernel_rfl)) (fun _ _ _ h=>h) (Or.inl ⟨by rfl,?_⟩) hHeld ?_ ?_
        rotate_left
        ·rintro w' ⟨s0,s1,s2,s3,s4,s5,s6,s7⟩
         go_simp
         with_reducible rfl
        rotate_left
        ·simp only [Act.put,List.setIfInBounds_toArray,List.set_cons_zero,List.set_cons_succ,i64_w,i32_w]
         rfl
        refine one_ (i:=2) (N:=some 36) #[true,true,true,true,true,false,false,false,false,false,false,false,false,false,false,false,false,false,false,false,false,false,false,false,false,false,false] rfl rfl (one_of HT_.out (by kernel_rfl)) (by decide) (fun K hK=>?_)
        refine goes_ Tryd.func18 (by kernel_rfl) rfl #[.agg #[.string a0_0,.slice A0_1 l0_1.length c0_1,.int .i64 a0_2,.slice Ao84 x236003_1.length co84],.agg #[.string a1_0,.slice A1_1 l1_1.length c1_1,.int .i64 a1_2,.slice A1_3 l1_3.length c1_3]] (by rfl) rfl rfl (by (try simp only [List.map_toArray,List.map_cons,List.map_nil]);first|done|rfl|(simp only [List.length_drop,List.length_take];rfl)) ?_
        with_reducible refine (tree_Same.calls k1 a0_0 _ _ l0_1 a0_2 _ _ x236003_1 a1_0 _ _ l1_1 a1_2 _ _ l1_3 t246 _ ?side1 ?side2 ?side3 ?side4 ?side5 ?side6 ?side7 ?side8 A37.out).mono ?_
        (case side1=>repeat (first|exact (Kd.C_below HR0_1.out HB.out)|(with_reducible refine Kd.C_alloc ?_ _)|(with_reducible refine Kd.C_drewN ?_ _)|(with_reducible refine Kd.C_drew ?_)))
        (case side2=>exact HC0_1.out)
        (case side3=>repeat (first|exact (Kd.V_reads' HO_236003.out).2.2|(with_reducible refine Kd.C_alloc ?_ _)|(with_reducible refine Kd.C_drewN ?_ _)|(with_reducible refine Kd.C_drew ?_)))
        (case side4=>exact (Kd.V_reads' HO_236003.out).2.1)
        (case side5=>repeat (first|exact (Kd.C_below HR1_1.out HB.out)|(with_reducible refine Kd.C_alloc ?_ _)|(with_reducible refine Kd.C_drewN ?_ _)|(with_reducible refine Kd.C_drew ?_)))
        (case side6=>exact HC1_1.out)
        (case side7=>repeat (first|exact (Kd.C_below HR1_3.out HB.out)|(with_reducible refine Kd.C_alloc ?_ _)|(with_reducible refine Kd.C_drewN ?_ _)|(with_reducible refine Kd.C_drew ?_)))
        (case side8=>exact HC1_3.out)
        rintro e w85 ⟨rfl,hb⟩
        refine ⟨_,rfl,?_⟩
        have n0_:=aK_ (Kd.V_below (by (with_reducible repeat (first|apply Kd.V_alloc|apply Kd.V_drewN|apply Kd.V_drew));exact HO_236003.out) hb)
        have n1_:=aK_ (Kd.N_below (by (with_reducible repeat (first|apply Kd.N_alloc|apply Kd.N_drewN|apply Kd.N_drew));exact HO_239003.out) hb)
        have n2_:=aK_ (zAV (g:=gb235) (o:=.cells #[.string a0_0,.slice A0_1 l0_1.length c0_1,.int .i64 a0_2,.slice Ao84 x236003_1.length co84] 25 (0,0)) (by (with_reducible repeat (first|refine zAG ?_ _|refine zAI ?_|refine zAH ?_ _));exact BK235.out) hb)
        have n3_:=aK_ (zAV (g:=gb236) (o:=.cells #[.string a1_0,.slice A1_1 l1_1.length c1_1,.int .i64 a1_2,.slice A1_3 l1_3.length c1_3] 25 (0,0)) (by (with_reducible repeat (first|refine zAG ?_ _|refine zAI ?_|refine zAH ?_ _));exact BK236.out) hb)
        have n4_:=aK_ (zAV (g:=gb238) (o:=.cells #[.string a0_0,.slice A0_1 l0_1.length c0_1,.int .i64 a0_2,.slice Ao82 x239003_1.length co82] 25 (0,0)) (by (with_reducible repeat (first|refine zAG ?_ _|refine zAI ?_|refine zAH ?_ _));exact BK238.out) hb)
        have n5_:=aK_ (zAN (by repeat (first|(with_reducible first|exact HB.out|apply zAB|apply zAA|apply zAE|refine zAF ?_ GE235.out|refine zAF ?_ GE236.out|refine zAF ?_ GE238.out)|exact HB.out)) hb)
        clear HO_236003
        clear HO_239003
        clear BK235
        clear BK236
        clear BK238
        clear HB
        have HO_236003:=n0_
        have HO_239003:=n1_
        have BK235:=n2_
        have BK236:=n3_
        have BK238:=n4_
        have HB:=n5_
        clear n0_ n1_ n2_ n3_ n4_ n5_
        (try clear hb)
        (try clear hb2)
        (try clear hk)
        (try clear hi)
        refine hK.out _ _ ⟨(zAD BK235.out 0).trans rfl,(zAD BK235.out 1).trans rfl,(zAD BK235.out 2).trans rfl,(zAD BK235.out 3).trans rfl,(zAD BK236.out 0).trans rfl,(zAD BK236.out 1).trans rfl,(zAD BK236.out 2).trans rfl,(zAD BK236.out 3).trans rfl⟩ (fun hHeld=>?_)
        clear hK K
        refine norm_ (a':=?_) ?_ ?_
        rotate_left
        ·show Act.put _ (some 36) _=_
         simp only [Act.put,List.setIfInBounds_toArray,List.set_cons_zero,List.set_cons_succ,i64_w,i32_w]
         rfl
        refine one_ (i:=5) (N:=some 39) #[true,true,true,true,true,true,false,false,false,false,false,false,false,false,false,false,false,false,false,false,false,false,false,false,false,false,false] rfl rfl (one_of HT_.out (by kernel_rfl)) (by decide) (fun K hK=>?_)
        refine goes_ Tryd.func19 (by kernel_rfl) rfl #[.agg #[.string a0_0,.slice A0_1 l0_1.length c0_1,.int .i64 a0_2,.slice Ao84 x236003_1.length co84],.agg #[.string a1_0,.slice A1_1 l1_1.length c1_1,.int .i64 a1_2,.slice A1_3 l1_3.length c1_3]] (by rfl) rfl rfl (by (try simp only [List.map_toArray,List.map_cons,List.map_nil]);first|done|rfl|(simp only [List.length_drop,List.length_take];rfl)) ?_
        with_reducible refine (zAL.calls k1 a0_0 _ _ l0_1 a0_2 _ _ x236003_1 a1_0 _ _ l1_1 a1_2 _ _ l1_3 t247 _ ?side1 ?side2 ?side3 ?side4 ?side5 ?side6 ?side7 ?side8 A38.out).mono ?_
        (case side1=>repeat (first|exact (Kd.C_below HR0_1.out HB.out)|(with_reducible refine Kd.C_alloc ?_ _)|(with_reducible refine Kd.C_drewN ?_ _)|(with_reducible refine Kd.C_drew ?_)))
        (case side2=>exact HC0_1.out)
        (case side3=>repeat (first|exact (Kd.V_reads' HO_236003.out).2.2|(with_reducible refine Kd.C_alloc ?_ _)|(with_reducible refine Kd.C_drewN ?_ _)|(with_reducible refine Kd.C_drew ?_)))
        (case side4=>exact (Kd.V_reads' HO_236003.out).2.1)
        (case side5=>repeat (first|exact (Kd.C_below HR1_1.out HB.out)|(with_reducible refine Kd.C_alloc ?_ _)|(with_reducible refine Kd.C_drewN ?_ _)|(with_reducible refine Kd.C_drew ?_)))
        (case side6=>exact HC1_1.out)
        (case side7=>repeat (first|exact (Kd.C_below HR1_3.out HB.out)|(with_reducible refine Kd.C_alloc ?_ _)|(with_reducible refine Kd.C_drewN ?_ _)|(with_reducible refine Kd.C_drew ?_)))
        (case side8=>exact HC1_3.out)
        rintro e w86 ⟨rfl,hb⟩
        refine ⟨_,rfl,?_⟩
        have n0_:=aK_ (Kd.V_below (by (with_reducible repeat (first|apply Kd.V_alloc|apply Kd.V_drewN|apply Kd.V_drew));exact HO_236003.out) hb)
        have n1_:=aK_ (Kd.N_below (by (with_reducible repeat (first|apply Kd.N_alloc|apply Kd.N_drewN|apply Kd.N_drew));exact HO_239003.out) hb)
        have n2_:=aK_ (zAV (g:=gb235) (o:=.cells #[.string a0_0,.slice A0_1 l0_1.length c0_1,.int .i64 a0_2,.slice Ao84 x236003_1.length co84] 25 (0,0)) (by (with_reducible repeat (first|refine zAG ?_ _|refine zAI ?_|refine zAH ?_ _));exact BK235.out) hb)
        have n3_:=aK_ (zAV (g:=gb236) (o:=.cells #[.string a1_0,.slice A1_1 l1_1.length c1_1,.int .i64 a1_2,.slice A1_3 l1_3.length c1_3] 25 (0,0)) (by (with_reducible repeat (first|refine zAG ?_ _|refine zAI ?_|refine zAH ?_ _));exact BK236.out) hb)
        have n4_:=aK_ (zAV (g:=gb238) (o:=.cells #[.string a0_0,.slice A0_1 l0_1.length c0_1,.int .i64 a0_2,.slice Ao82 x239003_1.length co82] 25 (0,0)) (by (with_reducible repeat (first|refine zAG ?_ _|refine zAI ?_|refine zAH ?_ _));exact BK238.out) hb)
        have n5_:=aK_ (zAN (by repeat (first|(with_reducible first|exact HB.out|apply zAB|apply zAA|apply zAE|refine zAF ?_ GE235.out|refine zAF ?_ GE236.out|refine zAF ?_ GE238.out)|exact HB.out)) hb)
        clear HO_236003
        clear HO_239003
        clear BK235
        clear BK236
        clear BK238
        clear HB
        have HO_236003:=n0_
        have HO_239003:=n1_
        have BK235:=n2_
        have BK236:=n3_
        have BK238:=n4_
        have HB:=n5_
        clear n0_ n1_ n2_ n3_ n4_ n5_
        (try clear hb)
        (try clear hb2)
        (try clear hk)
        (try clear hi)
        refine hK.out _ _ ⟨(zAD BK235.out 0).trans rfl,(zAD BK235.out 1).trans rfl,(zAD BK235.out 2).trans rfl,(zAD BK235.out 3).trans rfl,(zAD BK236.out 0).trans rfl,(zAD BK236.out 1).trans rfl,(zAD BK236.out 2).trans rfl,(zAD BK236.out 3).trans rfl⟩ (fun hHeld=>?_)
        clear hK K
        refine norm_ (a':=?_) ?_ ?_
        rotate_left
        ·show Act.put _ (some 39) _=_
         simp only [Act.put,List.setIfInBounds_toArray,List.set_cons_zero,List.set_cons_succ,i64_w,i32_w]
         rfl
        refine pure_ (i:=6) (N:=some 40) (v:=?_) (a':=?_) #[true,true,true,true,true,true,true,false,false,false,false,false,false,false,false,false,false,false,false,false,false,false,false,false,false,false,false] rfl rfl (any_of HT_.out (by kernel_rfl)) (fun _ _ _ h=>h) (Or.inl ⟨by rfl,?_⟩) ?_ ?_
        rotate_left
        ·intro w'
         go_simp
         with_reducible rfl
        rotate_left
        ·simp only [Act.put,List.setIfInBounds_toArray,List.set_cons_zero,List.set_cons_succ,i64_w,i32_w]
         rfl
        refine pure_ (i:=7) (N:=some 41) (v:=?_) (a':=?_) #[true,true,true,true,true,true,true,true,false,false,false,false,false,false,false,false,false,false,false,false,false,false,false,false,false,false,false] rfl rfl (any_of HT_.out (by kernel_rfl)) (fun _ _ _ h=>h) (Or.inl ⟨by rfl,?_⟩) ?_ ?_
        rotate_left
        ·intro w'
         go_simp
         with_reducible rfl
        rotate_left
        ·simp only [Act.put,List.setIfInBounds_toArray,List.set_cons_zero,List.set_cons_succ,i64_w,i32_w]
         rfl
        refine pure_ (i:=8) (N:=some 42) (v:=undef) (a':=?_) #[true,true,true,true,true,true,true,true,true,false,false,false,false,false,false,false,false,false,false,false,false,false,false,false,false,false,false] rfl rfl (any_of HT_.out (by kernel_rfl)) (fun _ _ _ h=>h) (Or.inr ⟨by rfl,rfl⟩) ?_ ?_
        rotate_left
        ·simp only [Act.put,List.setIfInBounds_toArray,List.set_cons_zero,List.set_cons_succ,i64_w,i32_w]
         rfl
        refine pure_ (i:=9) (N:=some 43) (v:=undef) (a':=?_) #[true,true,true,true,true,true,true,true,true,true,false,false,false,false,false,false,false,false,false,false,false,false,false,false,false,false,false] rfl rfl (any_of HT_.out (by kernel_rfl)) (fun _ _ _ h=>h) (Or.inr ⟨by rfl,rfl⟩) ?_ ?_
        rotate_left
        ·simp only [Act.put,List.setIfInBounds_toArray,List.set_cons_zero,List.set_cons_succ,i64_w,i32_w]
         rfl
        refine pure_ (i:=10) (N:=some 44) (v:=undef) (a':=?_) #[true,true,true,true,true,true,true,true,true,true,true,false,false,false,false,false,false,false,false,false,false,false,false,false,false,false,false] rfl rfl (any_of HT_.out (by kernel_rfl)) (fun _ _ _ h=>h) (Or.inr ⟨by rfl,rfl⟩) ?_ ?_
        rotate_left
        ·simp only [Act.put,List.setIfInBounds_toArray,List.set_cons_zero,List.set_cons_succ,i64_w,i32_w]
         rfl
        refine pure_ (i:=11) (N:=some 45) (v:=undef) (a':=?_) #[true,true,true,true,true,true,true,true,true,true,true,true,false,false,false,false,false,false,false,false,false,false,false,false,false,false,false] rfl rfl (any_of HT_.out (by kernel_rfl)) (fun _ _ _ h=>h) (Or.inr ⟨by rfl,rfl⟩) ?_ ?_
        rotate_left
        ·simp only [Act.put,List.setIfInBounds_toArray,List.set_cons_zero,List.set_cons_succ,i64_w,i32_w]
         rfl
        refine pure_ (i:=12) (N:=some 46) (v:=undef) (a':=?_) #[true,true,true,true,true,true,true,true,true,true,true,true,true,false,false,false,false,false,false,false,false,false,false,false,false,false,false] rfl rfl (any_of HT_.out (by kernel_rfl)) (fun _ _ _ h=>h) (Or.inr ⟨by rfl,rfl⟩) ?_ ?_
        rotate_left
        ·simp only [Act.put,List.setIfInBounds_toArray,List.set_cons_zero,List.set_cons_succ,i64_w,i32_w]
         rfl
        refine pure_ (i:=13) (N:=some 47) (v:=undef) (a':=?_) #[true,true,true,true,true,true,true,true,true,true,true,true,true,true,false,false,false,false,false,false,false,false,false,false,false,false,false] rfl rfl (any_of HT_.out (by kernel_rfl)) (fun _ _ _ h=>h) (Or.inr ⟨by rfl,rfl⟩) ?_ ?_
        rotate_left
        ·simp only [Act.put,List.setIfInBounds_toArray,List.set_cons_zero,List.set_cons_succ,i64_w,i32_w]
         rfl
        refine pure_ (i:=14) (N:=some 48) (v:=undef) (a':=?_) #[true,true,true,true,true,true,true,true,true,true,true,true,true,true,true,false,false,false,false,false,false,false,false,false,false,false,false] rfl rfl (any_of HT_.out (by kernel_rfl)) (fun _ _ _ h=>h) (Or.inr ⟨by rfl,rfl⟩) ?_ ?_
        rotate_left
        ·simp only [Act.put,List.setIfInBounds_toArray,List.set_cons_zero,List.set_cons_succ,i64_w,i32_w]
         rfl
        refine pure_ (i:=15) (N:=some 49) (v:=?_) (a':=?_) #[true,true,true,true,true,true,true,true,true,true,true,true,true,true,true,true,false,false,false,false,false,false,false,false,false,false,false] rfl rfl (any_of HT_.out (by kernel_rfl)) (fun _ _ _ h=>h) (Or.inl ⟨by rfl,?_⟩) ?_ ?_
        rotate_left
        ·intro w'
         go_simp
         with_reducible rfl
        rotate_left
        ·simp only [Act.put,List.setIfInBounds_toArray,List.set_cons_zero,List.set_cons_succ,i64_w,i32_w]
         rfl
        refine pure_ (i:=16) (N:=some 50) (v:=?_) (a':=?_) #[true,true,true,true,true,true,true,true,true,true,true,true,true,true,true,true,true,false,false,false,false,false,false,false,false,false,false] rfl rfl (any_of HT_.out (by kernel_rfl)) (fun _ _ _ h=>h) (Or.inl ⟨by rfl,?_⟩) ?_ ?_
        rotate_left
        ·intro w'
         go_simp
         with_reducible rfl
        rotate_left
        ·simp only [Act.put,List.setIfInBounds_toArray,List.set_cons_zero,List.set_cons_succ,i64_w,i32_w]
         rfl
        refine pure_ (i:=17) (N:=some 51) (v:=undef) (a':=?_) #[true,true,true,true,true,true,true,true,true,true,true,true,true,true,true,true,true,true,false,false,false,false,false,false,false,false,false] rfl rfl (any_of HT_.out (by kernel_rfl)) (fun _ _ _ h=>h) (Or.inr ⟨by rfl,rfl⟩) ?_ ?_
        rotate_left
        ·simp only [Act.put,List.setIfInBounds_toArray,List.set_cons_zero,List.set_cons_succ,i64_w,i32_w]
         rfl
        refine pure_ (i:=18) (N:=some 52) (v:=undef) (a':=?_) #[true,true,true,true,true,true,true,true,true,true,true,true,true,true,true,true,true,true,true,false,false,false,false,false,false,false,false] rfl rfl (any_of HT_.out (by kernel_rfl)) (fun _ _ _ h=>h) (Or.inr ⟨by rfl,rfl⟩) ?_ ?_
        rotate_left
        ·simp only [Act.put,List.setIfInBounds_toArray,List.set_cons_zero,List.set_cons_succ,i64_w,i32_w]
         rfl
        refine pure_ (i:=19) (N:=some 53) (v:=undef) (a':=?_) #[true,true,true,true,true,true,true,true,true,true,true,true,true,true,true,true,true,true,true,true,false,false,false,false,false,false,false] rfl rfl (any_of HT_.out (by kernel_rfl)) (fun _ _ _ h=>h) (Or.inr ⟨by rfl,rfl⟩) ?_ ?_
        rotate_left
        ·simp only [Act.put,List.setIfInBounds_toArray,List.set_cons_zero,List.set_cons_succ,i64_w,i32_w]
         rfl
        refine pure_ (i:=20) (N:=some 54) (v:=?_) (a':=?_) #[true,true,true,true,true,true,true,true,true,true,true,true,true,true,true,true,true,true,true,true,true,false,false,false,false,false,false] rfl rfl (any_of HT_.out (by kernel_rfl)) (fun _ _ _ h=>h) (Or.inl ⟨by rfl,?_⟩) ?_ ?_
        rotate_left
        ·intro w'
         go_simp
         with_reducible rfl
        rotate_left
        ·simp only [Act.put,List.setIfInBounds_toArray,List.set_cons_zero,List.set_cons_succ,i64_w,i32_w]
         rfl
        refine pure_ (i:=21) (N:=some 55) (v:=?_) (a':=?_) #[true,true,true,true,true,true,true,true,true,true,true,true,true,true,true,true,true,true,true,true,true,true,false,false,false,false,false] rfl rfl (any_of HT_.out (by kernel_rfl)) (fun _ _ _ h=>h) (Or.inl ⟨by rfl,?_⟩) ?_ ?_
        rotate_left
        ·intro w'
         go_simp
         with_reducible rfl
        rotate_left
        ·simp only [Act.put,List.setIfInBounds_toArray,List.set_cons_zero,List.set_cons_succ,i64_w,i32_w]
         rfl
        refine pure_ (i:=22) (N:=some 56) (v:=undef) (a':=?_) #[true,true,true,true,true,true,true,true,true,true,true,true,true,true,true,true,true,true,true,true,true,true,true,false,false,false,false] rfl rfl (any_of HT_.out (by kernel_rfl)) (fun _ _ _ h=>h) (Or.inr ⟨by rfl,rfl⟩) ?_ ?_
        rotate_left
        ·simp only [Act.put,List.setIfInBounds_toArray,List.set_cons_zero,List.set_cons_succ,i64_w,i32_w]
         rfl
        refine pure_ (i:=23) (N:=some 57) (v:=undef) (a':=?_) #[true,true,true,true,true,true,true,true,true,true,true,true,true,true,true,true,true,true,true,true,true,true,true,true,false,false,false] rfl rfl (any_of HT_.out (by kernel_rfl)) (fun _ _ _ h=>h) (Or.inr ⟨by rfl,rfl⟩) ?_ ?_
        rotate_left
        ·simp only [Act.put,List.setIfInBounds_toArray,List.set_cons_zero,List.set_cons_succ,i64_w,i32_w]
         rfl
        refine pure_ (i:=24) (N:=some 58) (v:=undef) (a':=?_) #[true,true,true,true,true,true,true,true,true,true,true,true,true,true,true,true,true,true,true,true,true,true,true,true,true,false,false] rfl rfl (any_of HT_.out (by kernel_rfl)) (fun _ _ _ h=>h) (Or.inr ⟨by rfl,rfl⟩) ?_ ?_
        rotate_left
        ·simp only [Act.put,List.setIfInBounds_toArray,List.set_cons_zero,List.set_cons_succ,i64_w,i32_w]
         rfl
        refine pure_ (i:=25) (N:=some 59) (v:=?_) (a':=?_) #[true,true,true,true,true,true,true,true,true,true,true,true,true,true,true,true,true,true,true,true,true,true,true,true,true,true,false] rfl rfl (any_of HT_.out (by kernel_rfl)) (fun _ _ _ h=>h) (Or.inl ⟨by rfl,?_⟩) ?_ ?_
        rotate_left
        ·intro w'
         go_simp
         with_reducible rfl
        rotate_left
        ·simp only [Act.put,List.setIfInBounds_toArray,List.set_cons_zero,List.set_cons_succ,i64_w,i32_w]
         rfl
        refine pure_ (i:=26) (N:=some 6) (v:=?_) (a':=?_) #[true,true,true,true,true,true,true,true,true,true,true,true,true,true,true,true,true,true,true,true,true,true,true,true,true,true,true] rfl rfl (any_of HT_.out (by kernel_rfl)) (fun _ _ _ h=>h) (Or.inl ⟨by rfl,?_⟩) ?_ ?_
        rotate_left
        ·intro w'
         go_simp
         with_reducible rfl
        rotate_left
        ·simp only [Act.put,List.setIfInBounds_toArray,List.set_cons_zero,List.set_cons_succ,i64_w,i32_w]
         rfl
        refine done_ (done_of HT_.out (by kernel_rfl)) ?_
        try go_wp2
        go_ret
        exact ⟨by first|rfl|(simp [zAP,zAQ] <;> rfl)|(simp [*,zAP,zAQ] <;> rfl),by repeat (first|(with_reducible first|exact HB.out|apply zAB|apply zAA|apply zAE|refine zAF ?_ GE235.out|refine zAF ?_ GE236.out|refine zAF ?_ GE238.out)|exact HB.out)⟩
   ·rw [if_neg c12] at H
    exact absurd H (by simp)
 ·replace c5:=Bool.eq_false_iff.mpr c5
  subst c5
  have H1:(some false)=some r:=by rw [if_neg (show ¬ (false=true) by decide)] at H;exact H
  clear H
  have H:=H1
  clear H1
  obtain rfl:=Option.some.inj H
  go_enter Tryd.func4,Tryd.ntmps4
  go_wp2_with (first|((with_reducible refine zAf (N:=3) rfl ?_);refine zAd ?hg (N:=3) ?hd (cs:=#[.string a0_0,.slice A0_1 l0_1.length c0_1,.int .i64 a0_2,.slice A0_3 l0_3.length c0_3]) (t:=25) ?hr ?_;(case hd=>rfl);(case hg=>rfl);(case hr=>first|(go_simp;done)|(go_simp;rfl));intro gb235 hg w87 hbox hb;have n0_:=aK_ (Kd.V_below (Kd.V_elderB (by (with_reducible repeat (first|apply Kd.V_alloc|apply Kd.V_drewN|apply Kd.V_drew));exact HO0_3.out) gb235 (Nat.le_of_eq hg.symm)) hb);have n1_:=aK_ (zAN (by repeat (first|(with_reducible first|exact HB.out|apply zAB|apply zAA|apply zAE)|exact HB.out)) hb);have n2_:=aK_ (hbox);have n3_:=aK_ ((by rw [hg];exact (zAK (by repeat (first|(with_reducible first|exact HB.out|apply zAB|apply zAA|apply zAE)|exact HB.out))):w.heap.size≤gb235));have n4_:=aK_ ((by rw [hg];exact (zAK (by repeat (first|(with_reducible first|exact HB.out|apply zAB|apply zAA|apply zAE)|exact HB.out))):w.heap.size≤gb235));clear HO0_3;clear HB;have HO0_3:=n0_;have HB:=n1_;have BK235:=n2_;have GW235:=n3_;have GE235:=n4_;clear n0_ n1_ n2_ n3_ n4_;clear hb hbox hg)|((with_reducible refine zAf (N:=4) rfl ?_);refine zAd ?hg (N:=4) ?hd (cs:=#[.string a1_0,.slice A1_1 l1_1.length c1_1,.int .i64 a1_2,.slice A1_3 l1_3.length c1_3]) (t:=25) ?hr ?_;(case hd=>rfl);(case hg=>rfl);(case hr=>first|(go_simp;done)|(go_simp;rfl));intro gb236 hg w88 hbox hb;have n0_:=aK_ (Kd.V_below (Kd.V_elderB (by (with_reducible repeat (first|apply Kd.V_alloc|apply Kd.V_drewN|apply Kd.V_drew));exact HO0_3.out) gb236 (Nat.le_of_eq hg.symm)) hb);have n1_:=aK_ (zAV (g:=gb235) (o:=.cells #[.string a0_0,.slice A0_1 l0_1.length c0_1,.int .i64 a0_2,.slice A0_3 l0_3.length c0_3] 25 (0,0)) (by (with_reducible repeat (first|refine zAG ?_ _|refine zAI ?_|refine zAH ?_ _));exact BK235.out) hb);have n2_:=aK_ (zAN (by repeat (first|(with_reducible first|exact HB.out|apply zAB|apply zAA|apply zAE|refine zAF ?_ GE235.out)|exact HB.out)) hb);have n3_:=aK_ (hbox);have n4_:=aK_ ((by rw [hg];exact (zAK (by repeat (first|(with_reducible first|exact HB.out|apply zAB|apply zAA|apply zAE|refine zAF ?_ GE235.out)|exact HB.out))):w.heap.size≤gb236));have n5_:=aK_ ((by rw [hg];exact (zAK (by repeat (first|(with_reducible first|exact HB.out|apply zAB|apply zAA|apply zAE|refine zAF ?_ GE235.out)|exact HB.out))):w.heap.size≤gb236));have n6_:=aK_ ((by rw [hg];exact Nat.ne_of_lt (blk_lt (g:=gb235) (o:=.cells #[.string a0_0,.slice A0_1 l0_1.length c0_1,.int .i64 a0_2,.slice A0_3 l0_3.length c0_3] 25 (0,0)) (by (with_reducible repeat (first|refine zAG ?_ _|refine zAI ?_|refine zAH ?_ _));exact BK235.out)):gb235≠gb236));have n7_:=aK_ ((by rw [hg];exact Nat.ne_of_gt (blk_lt (g:=gb235) (o:=.cells #[.string a0_0,.slice A0_1 l0_1.length c0_1,.int .i64 a0_2,.slice A0_3 l0_3.length c0_3] 25 (0,0)) (by (with_reducible repeat (first|refine zAG ?_ _|refine zAI ?_|refine zAH ?_ _));exact BK235.out)):gb236≠gb235));clear HO0_3;clear BK235;clear HB;have HO0_3:=n0_;have BK235:=n1_;have HB:=n2_;have BK236:=n3_;have GW236:=n4_;have GE236:=n5_;have NB235_236:=n6_;have NB236_235:=n7_;clear n0_ n1_ n2_ n3_ n4_ n5_ n6_ n7_;clear hb hbox hg)|((with_reducible refine gate_callee (f:=15) rfl ?_);refine goesL_ (some 9) rfl rfl Tryd.func15 (by kernel_rfl) rfl #[] rfl (by (try simp only [List.map_toArray,List.map_cons,List.map_nil]);first|done|rfl|(simp only [List.length_drop,List.length_take];rfl)) ?_;(with_reducible refine (octroilaw05_awake.calls k  false _ ?side1 A4.out).mono ?_);(case side1=>(first|(with_reducible exact hG)|((repeat (with_reducible first|exact hG|apply GW.drewN|apply GW.drew|apply GW.alloc));done)|exact GW.below hG (by repeat (first|(with_reducible first|exact HB.out|apply zAB|apply zAA|apply zAE|refine zAF ?_ GE235.out|refine zAF ?_ GE236.out)|exact HB.out))));rintro e w89 ⟨rfl,hb⟩;refine ⟨_,rfl,?_⟩;have n0_:=aK_ (Kd.V_below (by (with_reducible repeat (first|apply Kd.V_alloc|apply Kd.V_drewN|apply Kd.V_drew));exact HO0_3.out) hb);have n1_:=aK_ (zAV (g:=gb235) (o:=.cells #[.string a0_0,.slice A0_1 l0_1.length c0_1,.int .i64 a0_2,.slice A0_3 l0_3.length c0_3] 25 (0,0)) (by (with_reducible repeat (first|refine zAG ?_ _|refine zAI ?_|refine zAH ?_ _));exact BK235.out) hb);have n2_:=aK_ (zAV (g:=gb236) (o:=.cells #[.string a1_0,.slice A1_1 l1_1.length c1_1,.int .i64 a1_2,.slice A1_3 l1_3.length c1_3] 25 (0,0)) (by (with_reducible repeat (first|refine zAG ?_ _|refine zAI ?_|refine zAH ?_ _));exact BK236.out) hb);have n3_:=aK_ (zAN (by repeat (first|(with_reducible first|exact HB.out|apply zAB|apply zAA|apply zAE|refine zAF ?_ GE235.out|refine zAF ?_ GE236.out)|exact HB.out)) hb);clear HO0_3;clear BK235;clear BK236;clear HB;have HO0_3:=n0_;have BK235:=n1_;have BK236:=n2_;have HB:=n3_;clear n0_ n1_ n2_ n3_;(try clear hb);(try clear hb2);(try clear hk);(try clear hi)))
  go_ret
  exact ⟨by first|rfl|(simp [zAP,zAQ] <;> rfl)|(simp [*,zAP,zAQ] <;> rfl),by repeat (first|(with_reducible first|exact HB.out|apply zAB|apply zAA|apply zAE|refine zAF ?_ GE235.out|refine zAF ?_ GE236.out)|exact HB.out)⟩
end Go.Proofs.YthbnigjckjkmnaaDoor.S

namespace Go.Proofs.YthbnigjckjkmnaaDoor.S
open Go.RowKit Go.Proofs.YthbnigjckjkmnaaDoorW.PrintWords Go.Proofs.YthbnigjckjkmnaaDoorW.PrintLast Go.Proofs.YthbnigjckjkmnaaDoorW.PrintMore Go.Proofs.YthbnigjckjkmnaaDoor.Pure
abbrev bs (s : ByteArray) : List UInt8 := s.data.toList
theorem bs_len (s : ByteArray) : (bs s).length = s.size := by rw [bs, Array.length_toList]; rfl
theorem bt_nat (s : ByteArray) (i : Nat) (h : i < s.size) : bt s (i : Int) = (((bs s)[i]'(by rw [bs_len]; exact h)).toNat : Int) := by
  unfold bt
  rw [dif_pos (by simpa using h)]
  rfl
theorem bt_drop (s : ByteArray) (i : Nat) (h : i < s.size) : ∃ r, (bs s).drop i = (bs s)[i]'(by rw [bs_len]; exact h) :: r ∧ r = (bs s).drop (i + 1) :=
  ⟨_, List.drop_eq_getElem_cons (by rw [bs_len]; exact h), rfl⟩
theorem bs_extract (s : ByteArray) (a b : Nat) : bs (s.extract a b) = ((bs s).take b).drop a := by
  simp [bs, ByteArray.data_extract, Array.toList_extract, List.extract_eq_take_drop, List.drop_take]
theorem bs_from (s : ByteArray) (a : Nat) : bs (s.extract a s.size) = (bs s).drop a := by
  rw [bs_extract, List.take_of_length_le (by rw [bs_len]; omega)]
theorem bs_upto (s : ByteArray) (b : Nat) : bs (s.extract 0 b) = (bs s).take b := by rw [bs_extract]; rfl
theorem wrap_small {x : Int} (h0 : -9223372036854775808 ≤ x) (h1 : x ≤ 9223372036854775807) : wrap64 x = x := by unfold wrap64; omega
theorem size_from (s : ByteArray) (a : Nat) (h : a ≤ s.size) : (s.extract a s.size).size = s.size - a := by
  rw [← bs_len, bs_from, List.length_drop, bs_len]
theorem runL_take_all (p : Int → Bool) (l : List UInt8) : ∀ c ∈ l.take (runL p l), p (c.toNat : Int) = true := by
  induction l with
  | nil => intro c hc; simp at hc
  | cons a r ih =>
    intro c hc
    by_cases h : p (a.toNat : Int) = true
    · simp only [runL, h, if_true, List.take_succ_cons, List.mem_cons] at hc
      rcases hc with rfl | hc
      · exact h
      · exact ih c hc
    · simp [runL, h] at hc
theorem ext_bs {a b : ByteArray} (h : bs a = bs b) : a = b := by
  cases a; cases b
  simp only [bs] at h
  rw [Array.toList_inj.1 h]
theorem take_bs (s : ByteArray) (n : Nat) : s.extract 0 n = ⟨((bs s).take n).toArray⟩ := ext_bs (by rw [bs_upto])
theorem indexByte_mem (l : List UInt8) (c : UInt8) : (0 ≤ Lib.indexByte l c) ↔ c ∈ l := by
  induction l with
  | nil => simp [Lib.indexByte]
  | cons b r ih =>
    have := Lib.indexByte_ge r c
    by_cases h : b = c
    · simp [Lib.indexByte, h]
    · by_cases h1 : Lib.indexByte r c = -1
      · simp [Lib.indexByte, h, h1] at ih ⊢
        exact ⟨fun e => h e.symm, ih⟩
      · have h2 : 0 ≤ Lib.indexByte r c := by omega
        simp [Lib.indexByte, h, h1]
        constructor
        · intro _; exact .inr (ih.1 h2)
        · intro _; omega
theorem letter_f (c : Int) : scan_letter.f c = some (isLetter c) := by
  unfold scan_letter.f isLetter
  by_cases h : c ≥ 97
  · rw [if_pos h]; simp [show (97 : Int) ≤ c from h]
  · rw [if_neg h]; simp [show ¬ (97 : Int) ≤ c from h]
theorem u8_eq {c : UInt8} {n : Nat} (hn : n < 256) : (c.toNat : Int) = (n : Int) ↔ c = UInt8.ofNat n := by
  constructor
  · intro e
    exact UInt8.toNat_inj.1 (by simp [Nat.mod_eq_of_lt hn]; omega)
  · rintro rfl
    simp [Nat.mod_eq_of_lt hn]
theorem rLetter_f (c : Int) : octroiref04_Letter.f c = some (isLetter c) := by
  unfold octroiref04_Letter.f isLetter
  by_cases h : c ≥ 97
  · rw [if_pos h]; simp [show (97 : Int) ≤ c from h]
  · rw [if_neg h]; simp [show ¬ (97 : Int) ≤ c from h]
theorem rDigit_f (c : Int) : octroiref04_Digit.f c = some (isDigit c) := by
  unfold octroiref04_Digit.f isDigit
  by_cases h : c ≥ 48
  · rw [if_pos h]; simp [show (48 : Int) ≤ c from h]
  · rw [if_neg h]; simp [show ¬ (48 : Int) ≤ c from h]
theorem runL_stop (p : Int → Bool) (s : ByteArray) (i : Nat) (h : i < s.size) : runL p ((bs s).drop i) = if p (bt s i) = true then runL p ((bs s).drop (i + 1)) + 1 else 0 := by
  obtain ⟨r, hr, hr'⟩ := bt_drop s i h
  rw [hr, bt_nat s i h, hr']
  rfl
def flatW : List (List UInt8) → List UInt8
  | [] => []
  | w :: ws => w ++ 32 :: flatW ws
theorem contains_cons (b : UInt8) (l n : List UInt8) : Lib.contains (b :: l) n = (n.isPrefixOf (b :: l) || Lib.contains l n) := by
  have hge := Lib.index_ge l n
  have hi : Lib.index (b :: l) n = (if n.isPrefixOf (b :: l) then 0 else if Lib.index l n == -1 then -1 else Lib.index l n + 1) := rfl
  rw [Bool.eq_iff_iff]
  unfold Lib.contains
  rw [Bool.or_eq_true, decide_eq_true_iff, decide_eq_true_iff, hi]
  by_cases hp : n.isPrefixOf (b :: l) = true
  · rw [if_pos hp]; simp [hp]
  · rw [if_neg hp]
    by_cases hx : Lib.index l n = -1
    · rw [hx]; simp [hp]
    · have : (Lib.index l n == -1) = false := by simpa using hx
      rw [this]
      simp only [Bool.false_eq_true, if_false]
      constructor
      · intro _; exact .inr (by omega)
      · intro _; omega
theorem runL_yes {p : Int → Bool} {c : UInt8} {r : List UInt8} (h : p (c.toNat : Int) = true) : runL p (c :: r) = runL p r + 1 := if_pos h
theorem runL_no {p : Int → Bool} {c : UInt8} {r : List UInt8} (h : ¬ p (c.toNat : Int) = true) : runL p (c :: r) = 0 := if_neg h
theorem pre_words (s w r : List UInt8) (hs : ∀ c ∈ s, c ≠ 32) (hw : ∀ c ∈ w, c ≠ 32) : (s ++ [32]).isPrefixOf (w ++ 32 :: r) = decide (s = w) := by
  induction s generalizing w with
  | nil =>
    cases w with
    | nil => simp [List.isPrefixOf]
    | cons b w =>
      have := hw b (by simp)
      simp [List.isPrefixOf, this]
      exact fun h => this h.symm
  | cons a s ih =>
    cases w with
    | nil =>
      have := hs a (by simp)
      simp [List.isPrefixOf, this]
    | cons b w =>
      have h1 := ih w (fun c hc => hs c (by simp [hc])) (fun c hc => hw c (by simp [hc]))
      simp only [List.cons_append, List.isPrefixOf, h1]
      by_cases hab : a = b
      · subst hab; simp
      · simp [hab]
theorem skip_word (w t n : List UInt8) (hw : ∀ c ∈ w, c ≠ 32) : Lib.contains (w ++ t) (32 :: n) = Lib.contains t (32 :: n) := by
  induction w with
  | nil => rfl
  | cons b w ih =>
    have hb := hw b (by simp)
    rw [List.cons_append, contains_cons, ih (fun c hc => hw c (by simp [hc]))]
    have : (32 :: n).isPrefixOf (b :: (w ++ t)) = false := by
      simp [List.isPrefixOf]
      exact fun h => absurd h.symm hb
    rw [this, Bool.false_or]
theorem contains_words (s : List UInt8) (ws : List (List UInt8)) (hs : ∀ c ∈ s, c ≠ 32) (hw : ∀ w ∈ ws, ∀ c ∈ w, c ≠ 32) :
    Lib.contains (32 :: flatW ws) (32 :: (s ++ [32])) = decide (s ∈ ws) := by
  induction ws with
  | nil =>
    rw [flatW, contains_cons]
    have h1 : (32 :: (s ++ [32])).isPrefixOf [32] = false := by
      cases s <;> simp [List.isPrefixOf]
    have h2 : Lib.contains [] (32 :: (s ++ [32])) = false := rfl
    rw [h1, h2]
    simp
  | cons w ws ih =>
    have h1 : (32 :: (s ++ [32])).isPrefixOf (32 :: (w ++ 32 :: flatW ws)) = decide (s = w) := by
      rw [List.isPrefixOf, pre_words s w _ hs (hw w (by simp))]
      simp
    rw [flatW, contains_cons, h1, skip_word w _ _ (hw w (by simp)), ih (fun v hv => hw v (by simp [hv]))]
    simp [Bool.decide_or]
def wordsL : List (List UInt8) := [[112, 108, 97, 110], [114, 111, 117, 110, 100], [98, 121], [98, 108, 111, 99, 107, 115], [109, 105, 110], [109, 97, 120], [111, 118, 101, 114], [117, 112, 116, 111], [103, 114, 97, 100, 117, 97, 116, 101, 100], [118, 111, 108, 117, 109, 101], [111, 102, 102], [105, 102], [102, 108, 111, 111, 114], [99, 101, 105, 108], [122, 101, 114, 111], [104, 97, 108, 102], [101, 118, 101, 110]]
theorem words_letters : ∀ w ∈ wordsL, w ≠ [] ∧ runL isLetter w = w.length := by decide
theorem words_blank : ∀ w ∈ wordsL, ∀ c ∈ w, c ≠ 32 := by decide
theorem runL_all (p : Int → Bool) (l : List UInt8) (h : runL p l = l.length) : ∀ c ∈ l, p (c.toNat : Int) = true := by
  have := runL_take_all p l
  rw [h, List.take_length] at this
  exact this
theorem word_f (s : ByteArray) (hs : s.size ≤ 140737488351232) : scan_Word.f s = some (decide (bs s ∈ wordsL)) := by
  unfold scan_Word.f
  rw [ByteArray.toList_eq]
  by_cases h0 : bs s = []
  · rw [if_pos h0]
    have : ¬ (bs s ∈ wordsL) := fun h => (words_letters _ h).1 h0
    rw [decide_eq_false this]
  · rw [if_neg h0]
    have hlen : ((⟨#[32]⟩ : ByteArray) ++ s).size = 1 + s.size := by rw [ByteArray.size_append]; rfl
    unfold scan_run_letter.f
    rw [if_pos (by omega), Option.bind_some]
    by_cases hr : runL isLetter (bs s) = s.size
    · rw [if_pos (by exact congrArg Int.ofNat hr), if_pos (by omega), if_pos (by omega)]
      unfold strings_Contains.f
      rw [if_pos (by decide), Option.bind_some]
      congr 1
      have hbs : (((⟨#[32]⟩ : ByteArray) ++ s) ++ (⟨#[32]⟩ : ByteArray)).data.toList = 32 :: (bs s ++ [32]) := by
        rw [ByteArray.data_append, ByteArray.data_append, Array.toList_append, Array.toList_append]
        rfl
      rw [hbs]
      exact contains_words (bs s) wordsL (fun c hc h => by
        have := runL_all isLetter (bs s) (by rw [hr, bs_len]) c hc
        subst h
        exact absurd this (by decide)) words_blank
    · rw [if_neg (by intro h; exact hr (Int.ofNat.inj h))]
      have : ¬ (bs s ∈ wordsL) := fun h => hr (by rw [(words_letters _ h).2, bs_len])
      rw [decide_eq_false this]
theorem rword_l0 (s : ByteArray) (L : List ByteArray) (hL : L.length ≤ 100) (d : Nat) : ∀ (k i : Nat), i ≤ L.length → L.length - i ≤ d → d < k →
    zAc.l0 k s L (i : Int) = some (decide (bs s ∈ (L.drop i).map bs)) := by
  induction d with
  | zero =>
    intro k i h0 h1 hk
    obtain ⟨k, rfl⟩ : ∃ m, k = m + 1 := ⟨k - 1, by omega⟩
    simp only [zAc.l0]
    rw [if_neg (by omega), List.drop_of_length_le (by omega)]
    simp
  | succ d ih =>
    intro k i h0 h1 hk
    obtain ⟨k, rfl⟩ : ∃ m, k = m + 1 := ⟨k - 1, by omega⟩
    rcases Nat.lt_or_ge i L.length with hlt | hge
    · have hnext := ih k (i + 1) (by omega) (by omega) (by omega)
      have hw : wrap64 ((i : Int) + 1) = ((i + 1 : Nat) : Int) := by rw [wrap_small (by omega) (by omega)]; omega
      have hrd : rdOf ByteArray.empty L (i : Int) = L[i] := by
        rw [rdOf, Int.toNat_natCast, List.getD_eq_getElem?_getD, List.getElem?_eq_getElem hlt]; rfl
      simp only [zAc.l0]
      rw [if_pos (Int.ofNat_lt.2 hlt), if_pos (Int.natCast_nonneg _), hrd, hw, hnext, ByteArray.toList_eq, ByteArray.toList_eq]
      rw [List.drop_eq_getElem_cons hlt, List.map_cons]
      by_cases he : bs L[i] = bs s
      · rw [if_pos he, decide_eq_true (by simp [he])]
      · rw [if_neg he]
        congr 1
        have : ¬ bs s = bs L[i] := fun h => he h.symm
        simp [this]
    · simp only [zAc.l0]
      rw [if_neg (by omega), List.drop_of_length_le (by omega)]
      simp
theorem rword_f (s : ByteArray) (k : Nat) (hk : 17 < k) : zAc.f k s = some (decide (bs s ∈ wordsL)) := by
  unfold zAc.f octroiref04_words.f
  rw [Option.bind_some]
  exact rword_l0 s _ (by decide) 17 k 0 (by decide) (by decide) hk
def nameB (l : List UInt8) : Bool := decide (0 < l.length) && decide (l.length ≤ 32) && (match l with | [] => false | c :: _ => isLetter (c.toNat : Int)) && decide (runL isInner l = l.length) && !decide (l ∈ wordsL)
theorem name_f (s : ByteArray) (hs : s.size ≤ 140737488351232) : scan_Name.f s = some (nameB (bs s)) := by
  have hbl := bs_len s
  unfold scan_Name.f nameB
  rw [ByteArray.toList_eq]
  by_cases h0 : bs s = []
  · rw [if_pos h0, h0]; rfl
  · have hpos : 0 < s.size := by rw [← hbl]; exact List.length_pos_iff.2 h0
    rw [if_neg h0, hbl, decide_eq_true hpos, Bool.true_and]
    by_cases h32 : s.size ≤ 32
    · have hb := bt_nat s 0 hpos
      obtain ⟨r, hr, _⟩ := bt_drop s 0 hpos
      rw [List.drop_zero] at hr
      have hb' : bt s 0 = (((bs s)[0]'(by rw [hbl]; exact hpos)).toNat : Int) := hb
      rw [if_pos (by omega), if_pos (by omega), letter_f, Option.bind_some, decide_eq_true h32, Bool.true_and, hb']
      have hm : (match bs s with | [] => false | c :: _ => isLetter (c.toNat : Int)) = isLetter (((bs s)[0]'(by rw [hbl]; exact hpos)).toNat : Int) := by
        generalize (bs s)[0]'(by rw [hbl]; exact hpos) = c at hr ⊢
        rw [hr]
      rw [hm]
      cases hl : isLetter (((bs s)[0]'(by rw [hbl]; exact hpos)).toNat : Int) with
      | false => rw [if_neg (by decide)]; simp
      | true =>
        rw [if_pos rfl, word_f s hs]
        unfold scan_run_inner.f
        rw [if_pos (by omega), Option.bind_some, Option.bind_some, Bool.true_and]
        by_cases hr : runL isInner (bs s) = s.size
        · rw [if_pos (by exact congrArg Int.ofNat hr), decide_eq_true hr, Bool.true_and]
        · rw [if_neg (by intro h; exact hr (Int.ofNat.inj h)), decide_eq_false hr]; rfl
    · rw [if_neg (by omega), decide_eq_false h32]; simp
theorem rname_l0 (s : ByteArray) (hs : s.size ≤ 140737488351232) (d : Nat) : ∀ (k i : Nat), i ≤ s.size → s.size - i ≤ d → d < k →
    zAO.l0 k s (i : Int) = some (decide (runL isInner ((bs s).drop i) = s.size - i)) := by
  induction d with
  | zero =>
    intro k i h0 h1 hk
    obtain ⟨k, rfl⟩ : ∃ m, k = m + 1 := ⟨k - 1, by omega⟩
    simp only [zAO.l0]
    rw [if_neg (by omega), List.drop_of_length_le (by rw [bs_len]; omega), decide_eq_true (by simp [runL]; omega)]
  | succ d ih =>
    intro k i h0 h1 hk
    obtain ⟨k, rfl⟩ : ∃ m, k = m + 1 := ⟨k - 1, by omega⟩
    rcases Nat.lt_or_ge i s.size with hlt | hge
    · have hnext := ih k (i + 1) (by omega) (by omega) (by omega)
      have hb := bt_nat s i hlt
      obtain ⟨r, hr, hr2⟩ := bt_drop s i hlt
      generalize hc : (bs s)[i]'(by rw [bs_len]; exact hlt) = c at hb hr
      have hd : decide (runL isInner ((bs s).drop i) = s.size - i) = (isInner (c.toNat : Int) && decide (runL isInner ((bs s).drop (i + 1)) = s.size - (i + 1))) := by
        rw [hr, ← hr2]
        by_cases hi : isInner (c.toNat : Int) = true
        · rw [runL_yes hi, hi, Bool.true_and]
          by_cases h : runL isInner r = s.size - (i + 1)
          · rw [decide_eq_true h, decide_eq_true (by omega)]
          · rw [decide_eq_false h, decide_eq_false (by omega)]
        · rw [runL_no hi, decide_eq_false (by omega)]
          have : isInner (c.toNat : Int) = false := by simpa using hi
          rw [this, Bool.false_and]
      have hw : wrap64 ((i : Int) + 1) = ((i + 1 : Nat) : Int) := by rw [wrap_small (by omega) (by omega)]; omega
      rw [hd]
      simp only [zAO.l0]
      rw [if_pos (Int.ofNat_lt.2 hlt), if_pos (Int.natCast_nonneg _), hb, hw, hnext, rLetter_f, Option.bind_some, rDigit_f, Option.bind_some]
      unfold isInner
      by_cases h1 : isLetter (c.toNat : Int) = true
      · rw [if_pos h1, h1]; simp
      · have h1' : isLetter (c.toNat : Int) = false := by simpa using h1
        rw [if_neg h1, h1', Bool.false_or]
        by_cases h2 : isDigit (c.toNat : Int) = true
        · rw [if_pos h2, h2]; simp
        · have h2' : isDigit (c.toNat : Int) = false := by simpa using h2
          rw [if_neg h2, h2', Bool.false_or]
          by_cases h3 : (c.toNat : Int) = 95
          · rw [if_pos h3, h3]; simp
          · have : ((c.toNat : Int) == 95) = false := by simpa using h3
            rw [if_neg h3, this, Bool.false_and]
    · simp only [zAO.l0]
      rw [if_neg (by omega), List.drop_of_length_le (by rw [bs_len]; omega), decide_eq_true (by simp [runL]; omega)]
theorem rname_f (s : ByteArray) (hs : s.size ≤ 140737488351232) (k : Nat) (hk : s.size + 20 < k) : zAO.f k s = some (nameB (bs s)) := by
  have hbl := bs_len s
  obtain ⟨k, rfl⟩ : ∃ m, k = m + 1 := ⟨k - 1, by omega⟩
  unfold zAO.f
  by_cases h0 : s.size = 0
  · have hn : bs s = [] := List.eq_nil_of_length_eq_zero (by rw [hbl]; exact h0)
    rw [if_pos (by omega), hn]
    simp only [zAO.j0]
    rfl
  have hpos : 0 < s.size := by omega
  unfold nameB
  rw [if_neg (by omega), hbl, decide_eq_true hpos, Bool.true_and]
  by_cases h32 : s.size ≤ 32
  · have hb := bt_nat s 0 hpos
    obtain ⟨r, hr, _⟩ := bt_drop s 0 hpos
    rw [List.drop_zero] at hr
    have hb' : bt s 0 = (((bs s)[0]'(by rw [hbl]; exact hpos)).toNat : Int) := hb
    rw [if_neg (by omega), if_pos (by omega), rLetter_f, Option.bind_some, decide_eq_true h32, Bool.true_and, hb']
    have hm : (match bs s with | [] => false | c :: _ => isLetter (c.toNat : Int)) = isLetter (((bs s)[0]'(by rw [hbl]; exact hpos)).toNat : Int) := by
      generalize (bs s)[0]'(by rw [hbl]; exact hpos) = c at hr ⊢
      rw [hr]
    rw [hm]
    generalize (bs s)[0]'(by rw [hbl]; exact hpos) = c at hr ⊢
    cases hl : isLetter (c.toNat : Int) with
    | false => rw [if_neg (by decide)]; simp only [zAO.j0]; simp
    | true =>
      rw [if_pos rfl, rword_f s (k + 1) (by omega), Option.bind_some, Bool.true_and]
      simp only [zAO.j0]
      by_cases hw : bs s ∈ wordsL
      · rw [decide_eq_true hw]; simp
      · rw [decide_eq_false hw, if_neg (by decide)]
        have h1 := rname_l0 s hs s.size k 1 (by omega) (by omega) (by omega)
        have h2 : (zAO.l0 k s 1) = zAO.l0 k s ((1 : Nat) : Int) := rfl
        rw [h2, h1]
        have hin : isInner (c.toNat : Int) = true := isInner_of_letter hl
        have hr1 : (bs s).drop 1 = r := by rw [hr]; rfl
        rw [hr1, hr, runL_yes hin]
        congr 1
        by_cases h : runL isInner r = s.size - 1
        · rw [decide_eq_true h, decide_eq_true (by omega)]; rfl
        · rw [decide_eq_false h, decide_eq_false (by omega)]; rfl
  · rw [if_pos (by omega), decide_eq_false h32]
    simp only [zAO.j0]
    simp
end Go.Proofs.YthbnigjckjkmnaaDoor.S

namespace Go.Proofs.YthbnigjckjkmnaaDoor.S
open Go.RowKit Go.Proofs.YthbnigjckjkmnaaDoorW.PrintWords Go.Proofs.YthbnigjckjkmnaaDoorW.PrintLast Go.Proofs.YthbnigjckjkmnaaDoorW.PrintMore Go.Proofs.YthbnigjckjkmnaaDoor.Pure
abbrev Nd := S33
abbrev Dm := S47
abbrev Tr := S45
theorem Ev.ifp {α : Type} {c : Prop} [Decidable c] {g f : Nat → Option α} {r : α} (hc : c) (h : Ev g r) : Ev (fun k => if c then g k else f k) r := by
  simp only [if_pos hc]; exact h
theorem Ev.ifn {α : Type} {c : Prop} [Decidable c] {g f : Nat → Option α} {r : α} (hc : ¬ c) (h : Ev f r) : Ev (fun k => if c then g k else f k) r := by
  simp only [if_neg hc]; exact h
theorem Ev.ift {α : Type} {g f : Nat → Option α} {r : α} (h : Ev g r) : Ev (fun k => if True then g k else f k) r := by
  simp only [if_true]; exact h
theorem Ev.both {α : Type} {g : Nat → Option α} {r s : α} (h : Ev g r) (e : r = s) : Ev g s := e ▸ h
theorem Ev.pre {α β : Type} {o : Option β} {f : Nat → β → Option α} {b : β} {r : α} (h : o = some b) (k : Ev (fun n => f n b) r) : Ev (fun n => o.bind (f n)) r := by
  subst h
  exact k
theorem Ev.shift {α : Type} {g : Nat → Option α} {r : α} (h : Ev (fun k => g (k + 1)) r) : Ev g r := Ev.step (fun _ => rfl) h
theorem Ev.unique {α : Type} {g : Nat → Option α} {r s : α} (h : Ev g r) (h' : Ev g s) : r = s := by
  obtain ⟨K, hK⟩ := h
  obtain ⟨K', hK'⟩ := h'
  have a := hK (K + K') (by omega)
  have b := hK' (K + K') (by omega)
  rw [a] at b
  exact Option.some.inj b
theorem rdN (l : List Nd) (i : Nat) (h : i < l.length) : zAJ l (i : Int) = l[i] := by simp [zAJ, List.getD_eq_getElem?_getD, List.getElem?_eq_getElem h]
theorem rdT (l : List Tr) (i : Nat) (h : i < l.length) : zAb l (i : Int) = l[i] := by simp [zAb, List.getD_eq_getElem?_getD, List.getElem?_eq_getElem h]
theorem rdD (l : List Dm) (i : Nat) (h : i < l.length) : rd_T47 l (i : Int) = l[i] := by simp [rd_T47, List.getD_eq_getElem?_getD, List.getElem?_eq_getElem h]
theorem rdI (l : List Int) (i : Nat) (h : i < l.length) : rd l (i : Int) = l[i] := by simp [rd, List.getD_eq_getElem?_getD, List.getElem?_eq_getElem h]
theorem w_up (i : Nat) (h : i ≤ 140737488351232) : wrap64 ((i : Int) + 1) = ((i + 1 : Nat) : Int) := by unfold wrap64; omega
theorem w_down (i : Nat) (h : i ≤ 140737488351232) (h0 : 0 < i) : wrap64 ((i : Int) - 1) = ((i - 1 : Nat) : Int) := by unfold wrap64; omega
theorem Ev.ite2 {α : Type} {c : Prop} [Decidable c] {g f : Nat → Option α} {r s : α} (h : Ev g r) (h' : Ev f s) : Ev (fun k => if c then g k else f k) (if c then r else s) := by
  by_cases hc : c
  · rw [if_pos hc]; exact Ev.ifp hc h
  · rw [if_neg hc]; exact Ev.ifn hc h'
theorem Ev.ite3 {α : Type} {c : Prop} [Decidable c] {g f : Nat → Option α} {r s : α} (h : c → Ev g r) (h' : ¬ c → Ev f s) : Ev (fun k => if c then g k else f k) (if c then r else s) := by
  by_cases hc : c
  · rw [if_pos hc]; exact Ev.ifp hc (h hc)
  · rw [if_neg hc]; exact Ev.ifn hc (h' hc)
theorem w_len (n : Nat) (h : n ≤ 140737488351232) : wrap64 (n : Int) = n := wrap_small (by omega) (by omega)
def riseL : Option Int → List Tr → Bool
  | _, [] => true
  | p, t :: r => if (match p with | none => false | some q => decide (t.f0 ≤ q)) = true then false else if t.f0 > 1000000000000 then false else if t.f1 < -1000000000000 then false else if t.f1 > 1000000000000 then false else riseL (some t.f0) r
theorem riseL_none (t : Tr) (r : List Tr) : riseL none (t :: r) = if t.f0 > 1000000000000 then false else if t.f1 < -1000000000000 then false else if t.f1 > 1000000000000 then false else riseL (some t.f0) r := by
  rw [riseL]; exact if_neg (by decide)
theorem riseL_some (q : Int) (t : Tr) (r : List Tr) : riseL (some q) (t :: r) = if t.f0 ≤ q then false else if t.f0 > 1000000000000 then false else if t.f1 < -1000000000000 then false else if t.f1 > 1000000000000 then false else riseL (some t.f0) r := by
  rw [riseL]; simp only [decide_eq_true_eq]
def prevT (l : List Tr) : Nat → Option Int
  | 0 => none
  | j + 1 => (l[j]?).map (·.f0)
theorem prevT_succ (l : List Tr) (i : Nat) (h : i < l.length) : prevT l (i + 1) = some l[i].f0 := by simp [prevT, List.getElem?_eq_getElem h]
def riseB (l : List Tr) : Bool := if (l.length : Int) < 1 then false else if (l.length : Int) > 16 then false else if ((zAb l 0).f0 != 0) = true then false else riseL none l
theorem rising_l0 (l : List Tr) (hl : l.length ≤ 140737488351232) (d : Nat) : ∀ i, i + d = l.length → Ev (fun k => tree_rising.l0 k l l (l.length : Int) (i : Int)) (riseL (prevT l i) (l.drop i)) := by
  induction d with
  | zero =>
    intro i hi
    rw [List.drop_of_length_le (by omega)]
    refine Ev.step (f := fun _ => some true) (fun k => by simp only [tree_rising.l0]; rw [if_neg (by omega)]) ?_
    exact Ev.now _
  | succ d ih =>
    intro i hi
    have h : i < l.length := by omega
    have hn := ih (i + 1) (by omega)
    rw [prevT_succ l i h] at hn
    rw [List.drop_eq_getElem_cons h]
    refine Ev.step (fun k => by simp only [tree_rising.l0]; rw [if_pos (by omega), if_pos (by omega), if_pos (by omega), rdT l i h, w_up i (by omega)]) ?_
    cases i with
    | zero =>
      rw [show prevT l 0 = none from rfl, riseL_none]
      refine Ev.ifn (by simp) ?_
      exact Ev.ite2 (Ev.now _) (Ev.ite2 (Ev.now _) (Ev.ite2 (Ev.now _) hn))
    | succ j =>
      refine Ev.ifp (by omega) ?_
      rw [show ((j + 1 : Nat) : Int) - 1 = (j : Int) by omega, w_len j (by omega), rdT l j (by omega)]
      refine Ev.ifp (by omega) (Ev.ifp (by omega) ?_)
      rw [prevT_succ l j (by omega), riseL_some]
      exact Ev.ite2 (Ev.now _) (Ev.ite2 (Ev.now _) (Ev.ite2 (Ev.now _) (Ev.ite2 (Ev.now _) hn)))
theorem rising_ev (l : List Tr) (hl : l.length ≤ 140737488351232) : Ev (fun k => tree_rising.f k l) (riseB l) := by
  unfold riseB
  have h0 := rising_l0 l hl l.length 0 (by omega)
  refine Ev.ite3 (fun _ => ?_) (fun h1 => Ev.ite2 ?_ ?_)
  · exact Ev.step (f := fun _ => some false) (fun k => by simp [tree_rising.j0]) (Ev.now _)
  · exact Ev.step (f := fun _ => some false) (fun k => by simp [tree_rising.j0]) (Ev.now _)
  · refine Ev.ifp (by omega) (Ev.step (fun k => by simp only [tree_rising.j0]; rfl) ?_)
    exact Ev.ite2 (Ev.now _) h0
theorem swapB {a b : Prop} [Decidable a] [Decidable b] (z : Bool) : (if a then false else if b then false else z) = (if b then false else if a then false else z) := by
  by_cases ha : a <;> by_cases hb : b <;> simp [ha, hb]
theorem riseL_none' (t : Tr) (r : List Tr) : riseL none (t :: r) = if t.f0 > 1000000000000 then false else if t.f1 > 1000000000000 then false else if t.f1 < -1000000000000 then false else riseL (some t.f0) r := by
  rw [riseL_none, swapB (a := t.f1 < -1000000000000)]
theorem riseL_some' (q : Int) (t : Tr) (r : List Tr) : riseL (some q) (t :: r) = if t.f0 ≤ q then false else if t.f0 > 1000000000000 then false else if t.f1 > 1000000000000 then false else if t.f1 < -1000000000000 then false else riseL (some t.f0) r := by
  rw [riseL_some, swapB (a := t.f1 < -1000000000000)]
theorem rtiers_j2 (l : List Tr) (i : Nat) (h : i < l.length) (hl : l.length ≤ 140737488351232) (b : Bool) (r : Bool) (hn : Ev (fun k => zAR.l0 k l ((i + 1 : Nat) : Int)) r) :
    Ev (fun k => zAR.j2 k l (i : Int) b) (if b = true then false else if l[i].f0 > 1000000000000 then false else if l[i].f1 > 1000000000000 then false else if l[i].f1 < -1000000000000 then false else r) := by
  refine Ev.step (fun k => by simp only [zAR.j2]; rw [rdT l i h, w_up i (by omega)]) ?_
  exact Ev.ite2 (Ev.now _) (Ev.ifp (by omega) (Ev.ifp (by omega) (Ev.ite2 (Ev.now _) (Ev.ite2 (Ev.now _) (Ev.ite2 (Ev.now _) hn)))))
theorem rtiers_l0 (l : List Tr) (hl : l.length ≤ 140737488351232) (d : Nat) : ∀ i, i + d = l.length → Ev (fun k => zAR.l0 k l (i : Int)) (riseL (prevT l i) (l.drop i)) := by
  induction d with
  | zero =>
    intro i hi
    rw [List.drop_of_length_le (by omega)]
    refine Ev.step (f := fun _ => some true) (fun k => by simp only [zAR.l0]; rw [if_neg (by omega)]) ?_
    exact Ev.now _
  | succ d ih =>
    intro i hi
    have h : i < l.length := by omega
    have hn := ih (i + 1) (by omega)
    rw [prevT_succ l i h] at hn
    rw [List.drop_eq_getElem_cons h]
    refine Ev.step (fun k => by simp only [zAR.l0]; rw [if_pos (by omega), rdT l i h]) ?_
    cases i with
    | zero =>
      rw [show prevT l 0 = none from rfl, riseL_none']
      refine Ev.ifn (by simp) ?_
      have := rtiers_j2 l 0 h hl false _ hn
      rw [if_neg (by decide)] at this
      exact this
    | succ j =>
      refine Ev.ifp (by omega) ?_
      rw [show ((j + 1 : Nat) : Int) - 1 = (j : Int) by omega, w_len j (by omega), rdT l j (by omega)]
      refine Ev.ifp (by omega) (Ev.ifp (by omega) (Ev.ifp (by omega) ?_))
      rw [prevT_succ l j (by omega), riseL_some']
      have := rtiers_j2 l (j + 1) h hl (decide (l[j].f0 ≥ l[j + 1].f0)) _ hn
      simp only [decide_eq_true_eq, ge_iff_le] at this ⊢
      exact this
theorem rtiers_ev (l : List Tr) (hl : l.length ≤ 140737488351232) : Ev (fun k => zAR.f k l) (riseB l) := by
  unfold riseB
  have h0 := rtiers_l0 l hl l.length 0 (by omega)
  have hf : Ev (fun k => zAR.j0 k l true) false := Ev.step (f := fun _ => some false) (fun k => by simp [zAR.j0]) (Ev.now _)
  by_cases h1 : (l.length : Int) < 1
  · rw [if_pos h1]
    exact Ev.ifp (by omega) hf
  · rw [if_neg h1]
    refine Ev.ifn (by omega) (Ev.ite2 hf (Ev.ifp (by omega) ?_))
    refine Ev.step (fun k => by simp only [zAR.j0]; rfl) ?_
    exact Ev.ite2 (Ev.now _) h0
theorem kind_cases (c : Int) : (c < 1 ∨ c > 16) ∨ c = 1 ∨ c = 2 ∨ c = 3 ∨ c = 4 ∨ c = 5 ∨ c = 6 ∨ c = 7 ∨ c = 8 ∨ c = 9 ∨ c = 10 ∨ c = 11 ∨ c = 12 ∨ c = 13 ∨ c = 14 ∨ c = 15 ∨ c = 16 := by omega
def tkOf (n : Nd) : Int := if tk n.f0 ≥ 0 then tk n.f0 else n.f3
def tkR (n : Nd) : Int := if n.f0 < 1 ∨ n.f0 > 16 then -1 else tkOf n
theorem takes_f (n : Nd) (h : 1 ≤ n.f0 ∧ n.f0 ≤ 16) : tree_takes.f n.f0 n.f1 n.f2 n.f3 n.f4 n.f5 = some (tkOf n) := by
  unfold tree_takes.f tkOf
  rw [if_pos (by omega)]
theorem rtakes_ev (n : Nd) : Ev (fun k => zAM.f k n.f0 n.f1 n.f2 n.f3 n.f4 n.f5) (tkR n) := by
  refine ⟨10, fun k hk => ?_⟩
  obtain ⟨k, rfl⟩ : ∃ m, k = m + 10 := ⟨k - 10, by omega⟩
  obtain ⟨c, n1, n2, n3, n4, n5⟩ := n
  simp only [zAM.f, zAM.j0, zAM.j1, zAM.j2, zAM.j3, tkR, tkOf]
  rcases kind_cases c with h | rfl | rfl | rfl | rfl | rfl | rfl | rfl | rfl | rfl | rfl | rfl | rfl | rfl | rfl | rfl | rfl
  · have : c ≠ 1 ∧ c ≠ 2 ∧ c ≠ 3 ∧ c ≠ 4 ∧ c ≠ 5 ∧ c ≠ 6 ∧ c ≠ 7 ∧ c ≠ 8 ∧ c ≠ 9 ∧ c ≠ 10 ∧ c ≠ 11 ∧ c ≠ 12 ∧ c ≠ 13 ∧ c ≠ 14 ∧ c ≠ 15 ∧ c ≠ 16 := by omega
    rw [if_pos h]
    simp [this]
  all_goals simp [tk, tkL]
def mostB (c dims : Int) : Int := if mo c < 0 then wrap64 (dims - 1) else mo c
theorem rmost_ev (c dims : Int) (h : 1 ≤ c ∧ c ≤ 16) : Ev (fun k => zAa.f k c dims) (mostB c dims) := by
  refine ⟨10, fun k hk => ?_⟩
  obtain ⟨k, rfl⟩ : ∃ m, k = m + 10 := ⟨k - 10, by omega⟩
  simp only [zAa.f, zAa.j0, zAa.j1, mostB]
  rcases kind_cases c with h | rfl | rfl | rfl | rfl | rfl | rfl | rfl | rfl | rfl | rfl | rfl | rfl | rfl | rfl | rfl | rfl
  · omega
  all_goals simp [mo, moL]
def fieldsB (n : Nd) (dims : Int) : Bool :=
  !decide (n.f1 < 0) && (!decide (n.f1 > mostB n.f0 dims) && ((if op n.f0 = true then decide (n.f2 ≥ 1) && decide (n.f2 ≤ 6) else n.f2 == 0) && ((if tk n.f0 < 0 then decide (n.f3 ≥ 2) && decide (n.f3 ≤ 16) else n.f3 == 0) && (ti n.f0 || decide (¬ 0 < n.f4.length)))))
theorem rfields_ev (n : Nd) (dims : Int) (h : 1 ≤ n.f0 ∧ n.f0 ≤ 16) : Ev (fun k => zAU.f k n.f0 n.f1 n.f2 n.f3 n.f4 n.f5 dims) (fieldsB n dims) := by
  have hm := rmost_ev n.f0 dims h
  have key : ∀ b : Bool, Ev (fun k => zAU.j0 k b n.f0 n.f1 n.f2 n.f3 n.f4 n.f5) (!b && ((if op n.f0 = true then decide (n.f2 ≥ 1) && decide (n.f2 ≤ 6) else n.f2 == 0) && ((if tk n.f0 < 0 then decide (n.f3 ≥ 2) && decide (n.f3 ≤ 16) else n.f3 == 0) && (ti n.f0 || decide (¬ 0 < n.f4.length))))) := by
    intro b
    refine ⟨10, fun k hk => ?_⟩
    obtain ⟨k, rfl⟩ : ∃ m, k = m + 10 := ⟨k - 10, by omega⟩
    obtain ⟨c, n1, n2, n3, n4, n5⟩ := n
    have h' : 1 ≤ c ∧ c ≤ 16 := h
    simp only [zAU.j0, zAU.j1, zAU.j2]
    cases b
    · have e1 : ((n4.length : Int) == 0) = decide (¬ 0 < n4.length) := by
        by_cases q : n4.length = 0
        · simp [q]
        · rw [decide_eq_false (by omega)]
          simpa using q
      rw [e1]
      rcases kind_cases c with h | rfl | rfl | rfl | rfl | rfl | rfl | rfl | rfl | rfl | rfl | rfl | rfl | rfl | rfl | rfl | rfl
      · omega
      all_goals
        by_cases c1 : n2 < 1 <;> by_cases c2 : n2 > 6 <;> by_cases c3 : n2 = 0 <;> by_cases c4 : n3 < 2 <;> by_cases c5 : n3 > 16 <;> by_cases c6 : n3 = 0 <;> first | (exfalso; omega) | simp [op, opL, tk, tkL, ti, tiL, c1, c2, c3, c4, c5, c6]
        all_goals omega
    · simp
  unfold zAU.f fieldsB
  by_cases h1 : n.f1 < 0
  · refine Ev.ifp h1 (Ev.both (key true) ?_)
    simp [h1]
  · refine Ev.ifn h1 (Ev.bind hm ?_)
    refine Ev.both (key (decide (n.f1 > mostB n.f0 dims))) ?_
    simp [h1]
theorem bad_eq (n : Nd) (dims pile : Int) (h : 1 ≤ n.f0 ∧ n.f0 ≤ 16) : nodeBad n.f0 n.f1 n.f2 n.f3 n.f4.length dims pile = (!fieldsB n dims || decide (pile < tkOf n)) := by
  unfold nodeBad fieldsB tkOf mostB
  cases (decide (n.f1 < 0)) <;> cases (decide (n.f1 > if mo n.f0 < 0 then wrap64 (dims - 1) else mo n.f0)) <;> cases (if tk n.f0 < 0 then decide (n.f3 ≥ 2) && decide (n.f3 ≤ 16) else n.f3 == 0) <;> cases (if op n.f0 = true then decide (n.f2 ≥ 1) && decide (n.f2 ≤ 6) else n.f2 == 0) <;> cases (ti n.f0) <;> by_cases hq : 0 < n.f4.length <;> simp [hq]
def nodeErr (n : Nd) (dims pile : Int) : Int :=
  if n.f0 < 1 ∨ n.f0 > 16 then 50 else if nodeBad n.f0 n.f1 n.f2 n.f3 n.f4.length dims pile = true then 50 else if ti n.f0 = true then (if riseB n.f4 = true then 0 else 51) else 0
theorem node_ev (n : Nd) (hl : n.f4.length ≤ 140737488351232) (dims pile : Int) : Ev (fun k => tree_node.f k n.f0 n.f1 n.f2 n.f3 n.f4 n.f5 dims pile) (nodeErr n dims pile) := by
  unfold tree_node.f nodeErr
  refine Ev.ite2 (Ev.now _) (Ev.ite2 (Ev.now _) (Ev.ite2 ?_ (Ev.now _)))
  exact Ev.bind (rising_ev n.f4 hl) (Ev.now _)
theorem node_ok {n : Nd} {dims pile : Int} (h : nodeErr n dims pile = 0) : (1 ≤ n.f0 ∧ n.f0 ≤ 16) ∧ fieldsB n dims = true ∧ tkOf n ≤ pile ∧ 0 ≤ tkOf n := by
  unfold nodeErr at h
  by_cases h1 : n.f0 < 1 ∨ n.f0 > 16
  · rw [if_pos h1] at h; omega
  · rw [if_neg h1] at h
    have h2 : 1 ≤ n.f0 ∧ n.f0 ≤ 16 := by omega
    rw [bad_eq n dims pile h2] at h
    cases hf : fieldsB n dims with
    | false => simp [hf] at h
    | true =>
      by_cases h3 : pile < tkOf n
      · simp [h3] at h
      · refine ⟨h2, rfl, by omega, ?_⟩
        unfold tkOf
        split
        · assumption
        · rename_i h4
          unfold fieldsB at hf
          simp only [Bool.and_eq_true] at hf
          have h5 := hf.2.2.2.1
          rw [if_pos (by omega)] at h5
          simp at h5
          omega
def checkL (dims : Int) (tot : Nat) : List Nd → Nat → Int → Int × Int
  | [], _, pile => if pile = 1 then (0, 0) else ((tot : Int), 50)
  | n :: r, i, pile => if nodeErr n dims pile = 0 then checkL dims tot r (i + 1) (pile + (1 - tkOf n)) else ((i : Int), nodeErr n dims pile)
theorem check_l0 (a0 : ByteArray) (l1 : List Dm) (a2 : Int) (l3 : List Nd) (hl : l3.length ≤ 140737488351232) (ht : ∀ n ∈ l3, n.f4.length ≤ 140737488351232) (d : Nat) : ∀ (i : Nat) (pile : Int), i + d = l3.length → 0 ≤ pile → pile ≤ i →
    Ev (fun k => tree_Check.l0 k pile l3 (l3.length : Int) (i : Int) a0 l1 a2 l3) (checkL l1.length l3.length (l3.drop i) i pile) := by
  induction d with
  | zero =>
    intro i pile hi h0 h1
    rw [List.drop_of_length_le (by omega)]
    refine Ev.step (fun k => by simp only [tree_Check.l0]; rw [if_neg (by omega)]) ?_
    exact Ev.ite2 (Ev.now _) (Ev.now _)
  | succ d ih =>
    intro i pile hi h0 h1
    have h : i < l3.length := by omega
    rw [List.drop_eq_getElem_cons h]
    have hn := node_ev l3[i] (ht _ (List.getElem_mem h)) (l1.length : Int) pile
    refine Ev.step (fun k => by simp only [tree_Check.l0]; rw [if_pos (by omega), if_pos (by omega), if_pos (by omega), rdN l3 i h, w_up i (by omega)]) ?_
    refine Ev.bind hn ?_
    unfold checkL
    refine Ev.ite3 (fun he => ?_) (fun _ => Ev.now _)
    obtain ⟨hk, _, hp, hp0⟩ := node_ok he
    refine Ev.pre (takes_f _ hk) ?_
    rw [wrap_small (x := 1 - tkOf l3[i]) (by omega) (by omega), wrap_small (by omega) (by omega)]
    exact ih (i + 1) _ (by omega) (by omega) (by omega)
theorem ti_eq (c : Int) (h : 1 ≤ c ∧ c ≤ 16) : ti c = (c == 13 || c == 14) := by
  rcases kind_cases c with h | rfl | rfl | rfl | rfl | rfl | rfl | rfl | rfl | rfl | rfl | rfl | rfl | rfl | rfl | rfl | rfl
  · omega
  all_goals decide
theorem rcheck_j1 (a0 : ByteArray) (l1 : List Dm) (a2 : Int) (l3 : List Nd) (hl : l3.length ≤ 140737488351232) (n : Nd) (ht : n.f4.length ≤ 140737488351232) (i : Nat) (hi : i < l3.length) (pile t : Int) (h0 : 0 ≤ pile) (h1 : pile ≤ i) (b : Bool) (hb : b = false → (1 ≤ n.f0 ∧ n.f0 ≤ 16) ∧ 0 ≤ t ∧ t ≤ pile) (nx : Int × Int)
    (hn : b = false → (ti n.f0 = true → riseB n.f4 = true) → Ev (fun k => zAY.l0 k (pile + (1 - t)) ((i + 1 : Nat) : Int) a0 l1 a2 l3) nx) :
    Ev (fun k => zAY.j1 k pile (i : Int) t b a0 l1 a2 l3 n.f0 n.f1 n.f2 n.f3 n.f4 n.f5) (if b = true then ((i : Int), 50) else if ti n.f0 = true then (if riseB n.f4 = true then nx else ((i : Int), 51)) else nx) := by
  refine Ev.step (fun k => by simp only [zAY.j1]; rw [w_up i (by omega)]) ?_
  refine Ev.ite3 (fun _ => Ev.now _) (fun hf => ?_)
  have hf' : b = false := by simpa using hf
  obtain ⟨hk, t0, t1⟩ := hb hf'
  have e : wrap64 (wrap64 (pile - t) + 1) = pile + (1 - t) := by rw [wrap_small (x := pile - t) (by omega) (by omega), wrap_small (by omega) (by omega)]; omega
  simp only [e]
  rw [ti_eq _ hk]
  have hg := rtiers_ev n.f4 ht
  have hboth : Ev (fun k => (zAR.f k n.f4).bind fun t216 => if t216 = true then zAY.l0 k (pile + (1 - t)) ((i + 1 : Nat) : Int) a0 l1 a2 l3 else some ((i : Int), 51)) (if riseB n.f4 = true then nx else ((i : Int), 51)) :=
    Ev.bind hg (Ev.ite3 (fun hr => hn hf' (fun _ => hr)) (fun _ => Ev.now _))
  by_cases c1 : n.f0 = 13
  · simp only [c1, if_true, beq_self_eq_true, Bool.true_or]
    exact hboth
  · by_cases c2 : n.f0 = 14
    · simp only [c2, if_true, beq_self_eq_true, Bool.or_true, show ¬ ((14 : Int) = 13) from by decide, if_false]
      exact hboth
    · rw [if_neg (by simp [c1, c2])]
      refine Ev.ifn c1 (Ev.ifn c2 (hn hf' (fun h => ?_)))
      rw [ti_eq _ hk] at h
      simp [c1, c2] at h
theorem rcheck_l0 (a0 : ByteArray) (l1 : List Dm) (a2 : Int) (l3 : List Nd) (hl : l3.length ≤ 140737488351232) (ht : ∀ n ∈ l3, n.f4.length ≤ 140737488351232) (d : Nat) : ∀ (i : Nat) (pile : Int), i + d = l3.length → 0 ≤ pile → pile ≤ i →
    Ev (fun k => zAY.l0 k pile (i : Int) a0 l1 a2 l3) (checkL l1.length l3.length (l3.drop i) i pile) := by
  induction d with
  | zero =>
    intro i pile hi h0 h1
    rw [List.drop_of_length_le (by omega)]
    refine Ev.step (fun k => by simp only [zAY.l0]; rw [if_neg (by omega)]) ?_
    exact Ev.ite2 (Ev.now _) (Ev.now _)
  | succ d ih =>
    intro i pile hi h0 h1
    have h : i < l3.length := by omega
    rw [List.drop_eq_getElem_cons h]
    have htn := ht _ (List.getElem_mem h)
    have hik := ih (i + 1) (pile + (1 - tkOf l3[i])) (by omega)
    refine Ev.step (fun k => by simp only [zAY.l0]; rw [if_pos (by omega), if_pos (by omega), rdN l3 i h]) ?_
    generalize l3[i] = n at *
    unfold checkL
    refine Ev.bind (rtakes_ev n) ?_
    by_cases hk : n.f0 < 1 ∨ n.f0 > 16
    · have e1 : tkR n = -1 := by unfold tkR; rw [if_pos hk]
      have e2 : nodeErr n l1.length pile = 50 := by unfold nodeErr; rw [if_pos hk]
      rw [e1, e2]
      refine Ev.ifp (by omega) ?_
      have := rcheck_j1 a0 l1 a2 l3 hl n htn i h pile (-1) h0 h1 true (by simp) (0, 0) (by simp)
      exact this
    · have hk' : 1 ≤ n.f0 ∧ n.f0 ≤ 16 := by omega
      have e1 : tkR n = tkOf n := by unfold tkR; rw [if_neg hk]
      have e2 : nodeErr n l1.length pile = if (!fieldsB n l1.length || decide (pile < tkOf n)) = true then 50 else if ti n.f0 = true then (if riseB n.f4 = true then 0 else 51) else 0 := by
        unfold nodeErr; rw [if_neg hk, bad_eq n _ _ hk']
      have hfield : fieldsB n l1.length = true → 0 ≤ tkOf n := by
        intro hf
        by_cases h9 : pile < tkOf n
        · omega
        · unfold tkOf
          split
          · assumption
          · rename_i h4
            unfold fieldsB at hf
            simp only [Bool.and_eq_true] at hf
            have h5 := hf.2.2.2.1
            rw [if_pos (by omega)] at h5
            simp at h5
            omega
      rw [e1]
      have jt := fun (t : Int) => rcheck_j1 a0 l1 a2 l3 hl n htn i h pile t h0 h1 true (by simp) (0, 0) (by simp)
      simp only [if_true] at jt
      by_cases ht0 : tkOf n < 0
      · refine Ev.ifp ht0 (Ev.both (jt (tkOf n)) ?_)
        have : fieldsB n l1.length = false := by
          cases hf : fieldsB n l1.length with
          | false => rfl
          | true => have := hfield hf; omega
        rw [e2, this]
        simp
      · refine Ev.ifn ht0 (Ev.bind (rfields_ev n _ hk') ?_)
        cases hf : fieldsB n l1.length with
        | false =>
          refine Ev.ifn (by decide) (Ev.both (jt (tkOf n)) ?_)
          rw [e2, hf]
          simp
        | true =>
          refine Ev.ifp rfl ?_
          rw [e2, hf]
          have := rcheck_j1 a0 l1 a2 l3 hl n htn i h pile (tkOf n) h0 h1 (decide (pile < tkOf n)) (fun hb => ⟨hk', by omega, by simpa using hb⟩) _ (fun hb _ => hik (by have := of_decide_eq_false hb; omega) (by have := of_decide_eq_false hb; omega))
          refine Ev.both this ?_
          by_cases h9 : pile < tkOf n
          · simp [h9]
          · simp only [h9, decide_false, Bool.not_true, Bool.or_self, Bool.false_eq_true, if_false]
            by_cases h10 : ti n.f0 = true
            · by_cases h11 : riseB n.f4 = true <;> simp [h10, h11]
            · simp [h10]
def anyN (nm : ByteArray) (xs : List Dm) : Bool := xs.any fun e => e.f0.toList == nm.toList
def dimsS (pre : List Dm) : List Dm → Int
  | [] => 0
  | d :: r => if nameB (bs d.f0) = true then (if anyN d.f0 pre = true then 61 else if d.f1 < 1 ∨ d.f1 > 1000000000000 then 50 else dimsS (pre ++ [d]) r) else 61
def headE (a0 : ByteArray) (l1 : List Dm) (a2 : Int) : Int :=
  if nameB (bs a0) = true then (if (l1.length : Int) < 1 ∨ (l1.length : Int) > 4 then 100 else if dimsS [] l1 = 0 then (if a2 < 0 ∨ a2 > 4 then 50 else 0) else dimsS [] l1) else 61
theorem idxL_any (nm : ByteArray) (xs : List Dm) : ∀ n : Int, 0 ≤ n → (idxL nm xs n ≥ 0 ↔ anyN nm xs = true) := by
  induction xs with
  | nil => intro n hn; simp [idxL, anyN]
  | cons d r ih =>
    intro n hn
    rw [idxL]
    by_cases h : (d.f0.toList == nm.toList) = true
    · rw [if_pos h]
      simp only [anyN, List.any_cons, h, Bool.true_or, iff_true]
      exact hn
    · rw [if_neg h, ih (n + 1) (by omega)]
      simp only [anyN, List.any_cons]
      rw [show (d.f0.toList == nm.toList) = false by simpa using h, Bool.false_or]
theorem dimsL_eq (xs : List Dm) : ∀ (pre : List Dm), (∀ d ∈ xs, d.f0.size ≤ 140737488351232) → dimsL pre xs = some (dimsS pre xs) := by
  induction xs with
  | nil => intro pre h; rfl
  | cons d r ih =>
    intro pre h
    rw [dimsL, dimsS, name_f _ (h d (List.mem_cons_self))]
    simp only [Option.bind_some]
    by_cases h1 : nameB (bs d.f0) = true
    · rw [if_pos h1, if_pos h1]
      have h2 := idxL_any d.f0 pre 0 (by omega)
      by_cases h3 : anyN d.f0 pre = true
      · rw [if_pos h3, if_pos (h2.2 h3)]
      · rw [if_neg h3, if_neg (fun q => h3 (h2.1 q))]
        by_cases h4 : d.f1 < 1 ∨ d.f1 > 1000000000000
        · rw [if_pos h4, if_pos h4]
        · rw [if_neg h4, if_neg h4]
          exact ih _ (fun e he => h e (List.mem_cons_of_mem _ he))
    · rw [if_neg h1, if_neg h1]
theorem head_ev (a0 : ByteArray) (l1 : List Dm) (a2 : Int) (l3 : List Nd) (h0 : a0.size ≤ 140737488351232) (h1 : ∀ d ∈ l1, d.f0.size ≤ 140737488351232) : Ev (fun k => tree_head.f k a0 l1 a2 l3) (headE a0 l1 a2) := by
  unfold tree_head.f headE
  refine Ev.pre (name_f a0 h0) ?_
  refine Ev.ite2 (Ev.ite2 (Ev.now _) ?_) (Ev.now _)
  refine Ev.pre (dimsL_eq l1 [] h1) ?_
  unfold modeE
  exact Ev.ite2 (Ev.ite2 (Ev.now _) (Ev.now _)) (Ev.now _)
theorem rhead_l1 (a0 : ByteArray) (l1 : List Dm) (a2 : Int) (l3 : List Nd) (hl : l1.length ≤ 140737488351232) (i : Nat) (hi : i < l1.length) (nx : Int) (hn : Ev (fun k => zAT.l0 k ((i + 1 : Nat) : Int) a0 l1 a2 l3) nx) (d : Nat) : ∀ j, j + d = i →
    Ev (fun k => zAT.l1 k (i : Int) (j : Int) a0 l1 a2 l3) (if anyN l1[i].f0 ((l1.take i).drop j) = true then 61 else if l1[i].f1 < 1 ∨ l1[i].f1 > 1000000000000 then 50 else nx) := by
  induction d with
  | zero =>
    intro j hj
    rw [List.drop_of_length_le (by rw [List.length_take]; omega)]
    refine Ev.step (fun k => by simp only [zAT.l1]; rw [if_neg (by omega), if_pos (by omega), if_pos (by omega), rdD l1 i hi, w_up i (by omega)]) ?_
    simp only [anyN, List.any_nil, Bool.false_eq_true, if_false]
    by_cases c1 : l1[i].f1 < 1
    · rw [if_pos (.inl c1)]
      exact Ev.ifp c1 (Ev.now _)
    · by_cases c2 : l1[i].f1 > 1000000000000
      · rw [if_pos (.inr c2)]
        exact Ev.ifn c1 (Ev.ifp c2 (Ev.now _))
      · rw [if_neg (by omega)]
        exact Ev.ifn c1 (Ev.ifn c2 hn)
  | succ d ih =>
    intro j hj
    have hj' : j < (l1.take i).length := by rw [List.length_take]; omega
    have e : (l1.take i).drop j = l1[j] :: (l1.take i).drop (j + 1) := by rw [List.drop_eq_getElem_cons hj', List.getElem_take]
    refine Ev.step (fun k => by simp only [zAT.l1]; rw [if_pos (by omega), if_pos (by omega), if_pos (by omega), if_pos (by omega), if_pos (by omega), rdD l1 i hi, rdD l1 j (by omega), w_up j (by omega)]) ?_
    rw [e]
    by_cases c1 : l1[j].f0.toList = l1[i].f0.toList
    · refine Ev.ifp c1 (Ev.both (Ev.now _) ?_)
      simp [anyN, c1]
    · refine Ev.ifn c1 (Ev.both (ih (j + 1) (by omega)) ?_)
      simp [anyN, c1]
theorem mode_ev (a2 : Int) : Ev (fun _ => if a2 < 0 then some 50 else if a2 > 4 then some 50 else some (0 : Int)) (if a2 < 0 ∨ a2 > 4 then 50 else 0) := by
  by_cases c1 : a2 < 0
  · simp only [c1, true_or, if_true]; exact Ev.now _
  · by_cases c2 : a2 > 4
    · simp only [c1, c2, or_true, if_true, if_false]; exact Ev.now _
    · simp only [c1, c2, or_self, if_false]; exact Ev.now _
theorem rhead_l0 (a0 : ByteArray) (l1 : List Dm) (a2 : Int) (l3 : List Nd) (hl : l1.length ≤ 140737488351232) (h1 : ∀ d ∈ l1, d.f0.size ≤ 140737488351232) (d : Nat) : ∀ i, i + d = l1.length →
    Ev (fun k => zAT.l0 k (i : Int) a0 l1 a2 l3) (if dimsS (l1.take i) (l1.drop i) = 0 then (if a2 < 0 ∨ a2 > 4 then 50 else 0) else dimsS (l1.take i) (l1.drop i)) := by
  induction d with
  | zero =>
    intro i hi
    rw [List.drop_of_length_le (by omega)]
    refine Ev.step (fun k => by simp only [zAT.l0]; rw [if_neg (by omega)]) ?_
    rw [show dimsS (l1.take i) [] = 0 from rfl, if_pos (rfl : (0 : Int) = 0)]
    exact mode_ev a2
  | succ d ih =>
    intro i hi
    have h : i < l1.length := by omega
    rw [List.drop_eq_getElem_cons h]
    have hn := rname_f l1[i].f0 (h1 _ (List.getElem_mem h))
    have hnm : Ev (fun k => zAO.f k l1[i].f0) (nameB (bs l1[i].f0)) := ⟨_, fun k hk => hn k (show l1[i].f0.size + 20 < k from hk)⟩
    refine Ev.step (fun k => by simp only [zAT.l0]; rw [if_pos (by omega), if_pos (by omega), rdD l1 i h]) ?_
    refine Ev.bind hnm ?_
    have hl1 := rhead_l1 a0 l1 a2 l3 hl i h _ (ih (i + 1) (by omega)) i 0 (by omega)
    rw [List.drop_zero] at hl1
    rw [dimsS]
    by_cases c1 : nameB (bs l1[i].f0) = true
    · rw [if_pos c1]
      refine Ev.ifp c1 (Ev.both hl1 ?_)
      rw [List.take_succ_eq_append_getElem h]
      by_cases c2 : anyN l1[i].f0 (l1.take i) = true
      · simp [c2]
      · rw [if_neg c2, if_neg c2]
        by_cases c3 : l1[i].f1 < 1 ∨ l1[i].f1 > 1000000000000
        · rw [if_pos c3, if_pos c3]; rfl
        · rw [if_neg c3, if_neg c3]
    · rw [if_neg c1]
      exact Ev.ifn c1 (Ev.now _)
theorem rhead_ev (a0 : ByteArray) (l1 : List Dm) (a2 : Int) (l3 : List Nd) (h0 : a0.size ≤ 140737488351232) (hl : l1.length ≤ 140737488351232) (h1 : ∀ d ∈ l1, d.f0.size ≤ 140737488351232) : Ev (fun k => zAT.f k a0 l1 a2 l3) (headE a0 l1 a2) := by
  unfold zAT.f headE
  have hn := rname_f a0 h0
  have hnm : Ev (fun k => zAO.f k a0) (nameB (bs a0)) := ⟨_, fun k hk => hn k (show a0.size + 20 < k from hk)⟩
  refine Ev.bind hnm (Ev.ite2 ?_ (Ev.now _))
  have hl0 := rhead_l0 a0 l1 a2 l3 hl h1 l1.length 0 (by omega)
  simp only [List.take_zero, List.drop_zero] at hl0
  by_cases c1 : (l1.length : Int) = 0
  · rw [if_pos (.inl (by omega))]
    refine Ev.ifp c1 (Ev.step (f := fun _ => some 100) (fun k => by simp [zAT.j0]) (Ev.now _))
  · refine Ev.ifn c1 (Ev.step (fun k => by simp only [zAT.j0]; rfl) ?_)
    by_cases c2 : (l1.length : Int) > 4
    · rw [if_pos (.inr c2)]
      exact Ev.ifp (by simpa using c2) (Ev.now _)
    · rw [if_neg (by omega)]
      exact Ev.ifn (by simpa using c2) hl0
structure PB (a0 : ByteArray) (l1 : List Dm) (l3 : List Nd) : Prop where
  name : a0.size ≤ 140737488351232
  dims : l1.length ≤ 140737488351232
  names : ∀ d ∈ l1, d.f0.size ≤ 140737488351232
  nodes : l3.length ≤ 140737488351232
  tiers : ∀ n ∈ l3, n.f4.length ≤ 140737488351232
def chk (a0 : ByteArray) (l1 : List Dm) (a2 : Int) (l3 : List Nd) : Int × Int :=
  if headE a0 l1 a2 = 0 then (if (l3.length : Int) > 1024 then (1024, 2) else checkL l1.length l3.length l3 0 0) else (-1, headE a0 l1 a2)
theorem check_ev {a0 : ByteArray} {l1 : List Dm} (a2 : Int) {l3 : List Nd} (h : PB a0 l1 l3) : Ev (fun k => tree_Check.f k a0 l1 a2 l3) (chk a0 l1 a2 l3) := by
  unfold tree_Check.f chk
  refine Ev.bind (head_ev a0 l1 a2 l3 h.name h.names) (Ev.ite2 (Ev.ite2 (Ev.now _) ?_) (Ev.now _))
  have := check_l0 a0 l1 a2 l3 h.nodes h.tiers l3.length 0 0 (by omega) (by omega) (by omega)
  exact this
theorem rcheck_ev {a0 : ByteArray} {l1 : List Dm} (a2 : Int) {l3 : List Nd} (h : PB a0 l1 l3) : Ev (fun k => zAY.f k a0 l1 a2 l3) (chk a0 l1 a2 l3) := by
  unfold zAY.f chk
  refine Ev.bind (rhead_ev a0 l1 a2 l3 h.name h.dims h.names) (Ev.ite2 (Ev.ite2 (Ev.now _) ?_) (Ev.now _))
  have := rcheck_l0 a0 l1 a2 l3 h.nodes h.tiers l3.length 0 0 (by omega) (by omega) (by omega)
  exact this
structure PB2 (a0 : ByteArray) (l1 : List Dm) (a2 : Int) (l3 : List Nd) : Prop where
  pb : PB a0 l1 l3
  dims : l1.length ≤ 5864062014634
  nodes : l3.length ≤ 2199023255488
  tiers : ∀ n ∈ l3, n.f4.length ≤ 8796093022208
  mode : -9223372036854775808 ≤ a2 ∧ a2 ≤ 9223372036854775807
end Go.Proofs.YthbnigjckjkmnaaDoor.S

namespace Go.Proofs.YthbnigjckjkmnaaDoor.S
open Go.RowKit Go.Proofs.YthbnigjckjkmnaaDoorW.PrintWords Go.Proofs.YthbnigjckjkmnaaDoorW.PrintLast Go.Proofs.YthbnigjckjkmnaaDoorW.PrintMore Go.Proofs.YthbnigjckjkmnaaDoor.Pure
theorem checkL_ok (dims : Int) (tot : Nat) (l : List Nd) : ∀ (i : Nat) (pile : Int), (checkL dims tot l i pile).2 = 0 → checkL dims tot l i pile = (0, 0) := by
  induction l with
  | nil =>
    intro i pile h
    unfold checkL at h ⊢
    split at h
    · rename_i hp; rw [if_pos hp]
    · cases h
  | cons n r ih =>
    intro i pile h
    unfold checkL at h ⊢
    split at h
    · rename_i hp; rw [if_pos hp]; exact ih _ _ h
    · rename_i hp; exact absurd h hp
theorem chk_ok {a0 : ByteArray} {l1 : List Dm} {a2 : Int} {l3 : List Nd} (h : (chk a0 l1 a2 l3).2 = 0) : headE a0 l1 a2 = 0 ∧ l3.length ≤ 1024 ∧ checkL l1.length l3.length l3 0 0 = (0, 0) ∧ chk a0 l1 a2 l3 = (0, 0) := by
  unfold chk at h ⊢
  split at h
  · rename_i h1
    split at h
    · cases h
    · rename_i h2
      have := checkL_ok _ _ _ _ _ h
      refine ⟨h1, by omega, this, ?_⟩
      rw [if_pos h1, if_neg h2, this]
  · rename_i h1
    exact absurd h h1
theorem checkL_step {dims : Int} {tot : Nat} {n : Nd} {r : List Nd} {i : Nat} {pile : Int} (h : checkL dims tot (n :: r) i pile = (0, 0)) :
    nodeErr n dims pile = 0 ∧ checkL dims tot r (i + 1) (pile + (1 - tkOf n)) = (0, 0) := by
  unfold checkL at h
  split at h
  · rename_i hp; exact ⟨hp, h⟩
  · rename_i hp
    simp only [Prod.mk.injEq] at h
    exact absurd h.2 hp
def frL : List Nd → Nat → List Int → List Int → List Int
  | [], _, acc, _ => acc
  | n :: r, i, acc, pile => if tkOf n > 0 then frL r (i + 1) (acc ++ [pile.getD ((pile.length : Int) - tkOf n).toNat 0]) (pile.take ((pile.length : Int) - tkOf n).toNat ++ [pile.getD ((pile.length : Int) - tkOf n).toNat 0]) else frL r (i + 1) (acc ++ [(i : Int)]) (pile ++ [(i : Int)])
theorem firsts_l0 (dims : Int) (l3 : List Nd) (hl : l3.length ≤ 1024) (d : Nat) : ∀ (i : Nat) (acc pile : List Int), i + d = l3.length → acc.length = i → pile.length ≤ i → checkL dims l3.length (l3.drop i) i pile.length = (0, 0) →
    Ev (fun k => tree_firsts.l0 k acc pile l3 (l3.length : Int) (i : Int)) (frL (l3.drop i) i acc pile) := by
  induction d with
  | zero =>
    intro i acc pile hi ha hp hc
    rw [List.drop_of_length_le (by omega)]
    exact Ev.step (f := fun _ => some acc) (fun k => by simp only [tree_firsts.l0]; rw [if_neg (by omega)]) (Ev.now _)
  | succ d ih =>
    intro i acc pile hi ha hp hc
    have h : i < l3.length := by omega
    rw [List.drop_eq_getElem_cons h] at hc ⊢
    obtain ⟨he, hc'⟩ := checkL_step hc
    obtain ⟨hk, _, hp1, hp0⟩ := node_ok he
    refine Ev.step (fun k => by simp only [tree_firsts.l0]; rw [if_pos (by omega), if_pos (by omega), if_pos (by omega), rdN l3 i h, w_up i (by omega)]) ?_
    refine Ev.pre (takes_f _ hk) ?_
    have hnext := fun acc' pile' => ih (i + 1) acc' pile' (by omega)
    generalize l3[i] = n at *
    unfold frL
    by_cases h0 : tkOf n > 0
    · rw [if_pos h0]
      obtain ⟨m, hm⟩ := Int.eq_ofNat_of_zero_le (show 0 ≤ (pile.length : Int) - tkOf n by omega)
      have hw : wrap64 (m : Int) = (m : Int) := w_len m (by omega)
      simp only [hm, hw]
      have hml : m < pile.length := by omega
      refine Ev.ifp h0 (Ev.ifp (by omega) (Ev.ifp (by omega) (Ev.ifp (by omega) ?_)))
      refine Ev.pre rfl ?_
      have htk : (pile.take m).length = m := by rw [List.length_take]; omega
      refine Ev.ifp (by rw [Int.toNat_natCast, htk]; omega) (Ev.ifp (by omega) ?_)
      simp only [Int.toNat_natCast]
      have hg : rd pile (m : Int) = pile.getD m 0 := by simp [rd]
      rw [hg]
      refine hnext _ _ (by simp; omega) (by simp; omega) ?_
      rw [← hc']
      congr 1
      simp only [List.length_append, htk, List.length_cons, List.length_nil]
      omega
    · rw [if_neg h0]
      have hz : tkOf n = 0 := by omega
      refine Ev.ifn h0 (Ev.ifp (by omega) (Ev.ifp (by omega) ?_))
      refine hnext _ _ (by simp; omega) (by simp; omega) ?_
      rw [← hc', hz]
      congr 1
      simp
def frs (l3 : List Nd) : List Int := frL l3 0 [] []
theorem firsts_ev {a0 : ByteArray} {l1 : List Dm} (a2 : Int) {l3 : List Nd} (h : PB a0 l1 l3) : Ev (fun k => tree_Firsts.f k a0 l1 a2 l3) (if (chk a0 l1 a2 l3).2 = 0 then (frs l3, 0) else ([], (chk a0 l1 a2 l3).2)) := by
  unfold tree_Firsts.f
  refine Ev.bind (check_ev a2 h) (Ev.ite3 (fun hc => ?_) (fun _ => Ev.now _))
  obtain ⟨_, hl, hc', _⟩ := chk_ok hc
  refine Ev.bind (g := fun k => tree_firsts.f k a0 l1 a2 l3) (a := frs l3) ?_ (Ev.now _)
  exact firsts_l0 (l1.length : Int) l3 hl l3.length 0 [] [] (by omega) rfl (by simp) hc'
theorem ints_l0 (xs ys : List Int) (hl : xs.length ≤ 140737488351232) (he : xs.length = ys.length) (d : Nat) : ∀ i, i + d = xs.length → Ev (fun k => zAe.l0 k xs ys (i : Int)) (decide (xs.drop i = ys.drop i)) := by
  induction d with
  | zero =>
    intro i hi
    rw [List.drop_of_length_le (by omega), List.drop_of_length_le (by omega)]
    exact Ev.step (f := fun _ => some true) (fun k => by simp only [zAe.l0]; rw [if_neg (by omega)]) (Ev.now _)
  | succ d ih =>
    intro i hi
    have h : i < xs.length := by omega
    have h' : i < ys.length := by omega
    refine Ev.step (fun k => by simp only [zAe.l0]; rw [if_pos (by omega), if_pos (by omega), if_pos (by omega), rdI xs i h, rdI ys i h', w_up i (by omega)]) ?_
    rw [List.drop_eq_getElem_cons h, List.drop_eq_getElem_cons h']
    by_cases c : xs[i] = ys[i]
    · refine Ev.ifp c (Ev.both (ih (i + 1) (by omega)) ?_)
      simp only [List.cons.injEq, c, true_and]
    · refine Ev.ifn c (Ev.both (Ev.now _) ?_)
      simp only [List.cons.injEq, c, false_and, decide_false]
theorem ints_ev (xs ys : List Int) (hl : xs.length ≤ 140737488351232) : Ev (fun k => zAe.f k xs ys) (decide (xs = ys)) := by
  unfold zAe.f
  by_cases he : xs.length = ys.length
  · refine Ev.ifp (by omega) ?_
    have := ints_l0 xs ys hl he xs.length 0 (by omega)
    simpa using this
  · refine Ev.ifn (by omega) (Ev.both (Ev.now _) ?_)
    have : xs ≠ ys := fun e => he (by rw [e])
    simp [this]
def tierEq (a b : Tr) : Bool := a.f0 == b.f0 && a.f1 == b.f1
def dimEq (a b : Dm) : Bool := a.f0.toList == b.f0.toList && a.f1 == b.f1
def listEq {α : Type} (p : α → α → Bool) : List α → List α → Bool
  | [], [] => true
  | a :: xs, b :: ys => p a b && listEq p xs ys
  | _, _ => false
theorem listEq_len {α : Type} (p : α → α → Bool) : ∀ (xs ys : List α), xs.length ≠ ys.length → listEq p xs ys = false
  | [], [], h => absurd rfl h
  | [], _ :: _, _ => rfl
  | _ :: _, [], _ => rfl
  | a :: xs, b :: ys, h => by
    rw [listEq, listEq_len p xs ys (by simpa using h), Bool.and_false]
def nodeEq (a b : Nd) : Bool := a.f0 == b.f0 && (a.f1 == b.f1 && (a.f2 == b.f2 && (a.f3 == b.f3 && listEq tierEq a.f4 b.f4)))
def sameB (a0 : ByteArray) (l1 : List Dm) (a2 : Int) (l3 : List Nd) (b0 : ByteArray) (m1 : List Dm) (b2 : Int) (m3 : List Nd) : Bool :=
  a0.toList == b0.toList && (a2 == b2 && (listEq dimEq l1 m1 && listEq nodeEq l3 m3))
theorem eqTier_l0 (xs ys : List Tr) (hl : xs.length ≤ 140737488351232) (he : xs.length = ys.length) (d : Nat) : ∀ i, i + d = xs.length → Ev (fun k => zAh.l0 k xs ys (xs.length : Int) (i : Int)) (listEq tierEq (xs.drop i) (ys.drop i)) := by
  induction d with
  | zero =>
    intro i hi
    rw [List.drop_of_length_le (by omega), List.drop_of_length_le (by omega)]
    exact Ev.step (f := fun _ => some true) (fun k => by simp only [zAh.l0]; rw [if_neg (by omega)]) (Ev.now _)
  | succ d ih =>
    intro i hi
    have h : i < xs.length := by omega
    have h' : i < ys.length := by omega
    refine Ev.step (fun k => by simp only [zAh.l0]; rw [if_pos (by omega), if_pos (by omega), if_pos (by omega), if_pos (by omega), rdT xs i h, rdT ys i h', w_up i (by omega)]) ?_
    rw [List.drop_eq_getElem_cons h, List.drop_eq_getElem_cons h', listEq, tierEq]
    by_cases c : (!(xs[i].f0 == ys[i].f0) || !(xs[i].f1 == ys[i].f1)) = true
    · refine Ev.ifp c (Ev.both (Ev.now _) ?_)
      cases h1 : (xs[i].f0 == ys[i].f0) <;> cases h2 : (xs[i].f1 == ys[i].f1) <;> simp [h1, h2] at c ⊢
    · refine Ev.ifn c (Ev.both (ih (i + 1) (by omega)) ?_)
      cases h1 : (xs[i].f0 == ys[i].f0) <;> cases h2 : (xs[i].f1 == ys[i].f1) <;> simp [h1, h2] at c ⊢
theorem eqTier_ev (xs ys : List Tr) (hl : xs.length ≤ 140737488351232) : Ev (fun k => zAh.f k xs ys) (listEq tierEq xs ys) := by
  unfold zAh.f
  by_cases he : xs.length = ys.length
  · exact Ev.ifp (by omega) (by have := eqTier_l0 xs ys hl he xs.length 0 (by omega); simpa using this)
  · refine Ev.ifn (by omega) (Ev.both (Ev.now _) (listEq_len _ _ _ he).symm)
theorem eqDim_l0 (xs ys : List Dm) (hl : xs.length ≤ 140737488351232) (he : xs.length = ys.length) (d : Nat) : ∀ i, i + d = xs.length → Ev (fun k => slices_Equal_Dim.l0 k xs ys (xs.length : Int) (i : Int)) (listEq dimEq (xs.drop i) (ys.drop i)) := by
  induction d with
  | zero =>
    intro i hi
    rw [List.drop_of_length_le (by omega), List.drop_of_length_le (by omega)]
    exact Ev.step (f := fun _ => some true) (fun k => by simp only [slices_Equal_Dim.l0]; rw [if_neg (by omega)]) (Ev.now _)
  | succ d ih =>
    intro i hi
    have h : i < xs.length := by omega
    have h' : i < ys.length := by omega
    refine Ev.step (fun k => by simp only [slices_Equal_Dim.l0]; rw [if_pos (by omega), if_pos (by omega), if_pos (by omega), if_pos (by omega), rdD xs i h, rdD ys i h', w_up i (by omega)]) ?_
    rw [List.drop_eq_getElem_cons h, List.drop_eq_getElem_cons h', listEq, dimEq]
    by_cases c : (!(xs[i].f0.toList == ys[i].f0.toList) || !(xs[i].f1 == ys[i].f1)) = true
    · refine Ev.ifp c (Ev.both (Ev.now _) ?_)
      cases h1 : (xs[i].f0.toList == ys[i].f0.toList) <;> cases h2 : (xs[i].f1 == ys[i].f1) <;> simp [h1, h2] at c ⊢
    · refine Ev.ifn c (Ev.both (ih (i + 1) (by omega)) ?_)
      cases h1 : (xs[i].f0.toList == ys[i].f0.toList) <;> cases h2 : (xs[i].f1 == ys[i].f1) <;> simp [h1, h2] at c ⊢
theorem eqDim_ev (xs ys : List Dm) (hl : xs.length ≤ 140737488351232) : Ev (fun k => slices_Equal_Dim.f k xs ys) (listEq dimEq xs ys) := by
  unfold slices_Equal_Dim.f
  by_cases he : xs.length = ys.length
  · exact Ev.ifp (by omega) (by have := eqDim_l0 xs ys hl he xs.length 0 (by omega); simpa using this)
  · refine Ev.ifn (by omega) (Ev.both (Ev.now _) (listEq_len _ _ _ he).symm)
theorem same1_ev (a b : Nd) (hl : a.f4.length ≤ 140737488351232) : Ev (fun k => tree_Same_1.f k a.f0 a.f1 a.f2 a.f3 a.f4 a.f5 b.f0 b.f1 b.f2 b.f3 b.f4 b.f5) (nodeEq a b) := by
  unfold tree_Same_1.f nodeEq
  have h4 := eqTier_ev a.f4 b.f4 hl
  by_cases c0 : a.f0 = b.f0
  · refine Ev.ifp c0 ?_
    by_cases c1 : a.f1 = b.f1
    · refine Ev.ifp c1 ?_
      by_cases c2 : a.f2 = b.f2
      · refine Ev.ifp c2 ?_
        by_cases c3 : a.f3 = b.f3
        · refine Ev.ifp c3 (Ev.bind h4 (Ev.both (Ev.now _) ?_))
          simp [c0, c1, c2, c3]
        · exact Ev.ifn c3 (Ev.both (Ev.now _) (by simp [c3]))
      · exact Ev.ifn c2 (Ev.both (Ev.now _) (by simp [c2]))
    · exact Ev.ifn c1 (Ev.both (Ev.now _) (by simp [c1]))
  · exact Ev.ifn c0 (Ev.both (Ev.now _) (by simp [c0]))
theorem eqNL_ev (xs : List Nd) : ∀ ys : List Nd, xs.length = ys.length → (∀ n ∈ xs, n.f4.length ≤ 140737488351232) → Ev (fun k => eqNL k xs ys) (listEq nodeEq xs ys) := by
  induction xs with
  | nil =>
    intro ys he _
    cases ys with
    | nil => exact Ev.congr (f := fun _ => some true) (fun k => by simp [eqNL]) (Ev.now _)
    | cons b ys => simp at he
  | cons a xs ih =>
    intro ys he ht
    cases ys with
    | nil => simp at he
    | cons b ys =>
      refine Ev.congr (fun k => by simp only [eqNL]; rfl) ?_
      refine Ev.bind (same1_ev a b (ht a List.mem_cons_self)) ?_
      rw [listEq]
      cases hq : nodeEq a b with
      | true =>
        refine Ev.ifp rfl (Ev.both (ih ys (by simpa using he) (fun n hn => ht n (List.mem_cons_of_mem _ hn))) ?_)
        simp
      | false => exact Ev.ifn (by decide) (Ev.now _)
theorem same_ev (a0 : ByteArray) (l1 : List Dm) (a2 : Int) (l3 : List Nd) (b0 : ByteArray) (m1 : List Dm) (b2 : Int) (m3 : List Nd) (h1 : l1.length ≤ 140737488351232) (h3 : ∀ n ∈ l3, n.f4.length ≤ 140737488351232) :
    Ev (fun k => tree_Same.f k a0 l1 a2 l3 b0 m1 b2 m3) (sameB a0 l1 a2 l3 b0 m1 b2 m3) := by
  unfold tree_Same.f sameB
  by_cases c0 : (a0.toList == b0.toList) = true
  · refine Ev.ifp c0 ?_
    by_cases c2 : a2 = b2
    · refine Ev.ifp c2 (Ev.bind (eqDim_ev l1 m1 h1) ?_)
      rw [c0, show (a2 == b2) = true by simpa using c2, Bool.true_and, Bool.true_and]
      cases hd : listEq dimEq l1 m1 with
      | true =>
        refine Ev.ifp rfl ?_
        unfold eqNF
        by_cases he : l3.length = m3.length
        · exact Ev.ifp he (by rw [Bool.true_and]; exact eqNL_ev l3 m3 he h3)
        · exact Ev.ifn he (Ev.both (Ev.now _) (by rw [listEq_len _ _ _ he]; rfl))
      | false => exact Ev.ifn (by decide) (Ev.now _)
    · exact Ev.ifn c2 (Ev.both (Ev.now _) (by simp [c2]))
  · exact Ev.ifn c0 (Ev.both (Ev.now _) (by simp [show (a0.toList == b0.toList) = false by simpa using c0]))
theorem listEq_refl {α : Type} (p : α → α → Bool) (hp : ∀ a, p a a = true) : ∀ xs : List α, listEq p xs xs = true
  | [] => rfl
  | a :: xs => by rw [listEq, hp, listEq_refl p hp xs]; rfl
theorem tierEq_refl (a : Tr) : tierEq a a = true := by simp [tierEq]
theorem dimEq_refl (a : Dm) : dimEq a a = true := by simp [dimEq]
theorem nodeEq_refl (a : Nd) : nodeEq a a = true := by simp [nodeEq, listEq_refl tierEq tierEq_refl]
theorem sameB_refl (a0 : ByteArray) (l1 : List Dm) (a2 : Int) (l3 : List Nd) : sameB a0 l1 a2 l3 a0 l1 a2 l3 = true := by simp [sameB, listEq_refl dimEq dimEq_refl, listEq_refl nodeEq nodeEq_refl]
def five : List Nd := [(⟨3, 0, 0, 0, [], 0⟩ : Nd), (⟨2, 3, 0, 0, [], 0⟩ : Nd), (⟨8, 0, 0, 0, [], 0⟩ : Nd), (⟨2, 5, 0, 0, [], 0⟩ : Nd), (⟨6, 0, 0, 0, [], 0⟩ : Nd)]
def fiveD : List Dm := [(⟨(⟨#[97]⟩ : ByteArray), 1⟩ : Dm)]
theorem five_chk : chk (⟨#[112]⟩ : ByteArray) fiveD 0 five = (0, 0) := by decide +kernel
theorem five_frs : frs five = [0, 1, 0, 3, 0] := by decide +kernel
theorem plan_chk : chk (⟨#[112, 108, 97, 110]⟩ : ByteArray) [] 0 [] = (-1, 61) := by decide +kernel
theorem five_PB : PB (⟨#[112]⟩ : ByteArray) fiveD five := ⟨by decide, by decide, by intro d hd; simp [fiveD] at hd; subst hd; decide, by decide, by intro n hn; simp [five] at hn; rcases hn with rfl | rfl | rfl | rfl | rfl <;> decide⟩
theorem plan_PB : PB (⟨#[112, 108, 97, 110]⟩ : ByteArray) [] [] := ⟨by decide, by decide, by intro d hd; simp at hd, by decide, by intro n hn; simp at hn⟩
theorem awake_ev : Ev (fun k => octroilaw05_awake.f k) true := by
  unfold octroilaw05_awake.f octroilaw05_five.f
  refine Ev.pre rfl ?_
  have h1 := check_ev 0 five_PB
  have h2 := firsts_ev 0 five_PB
  have h3 := check_ev 0 plan_PB
  rw [five_chk] at h1 h2
  rw [plan_chk] at h3
  rw [if_pos rfl, five_frs] at h2
  refine Ev.bind h1 (Ev.bind h2 (Ev.bind h3 ?_))
  refine Ev.ifp rfl (Ev.ifp rfl (Ev.ifp rfl ?_))
  refine Ev.bind (ints_ev _ _ (by decide)) ?_
  refine Ev.ifp (by decide) (Ev.ifp rfl ?_)
  refine Ev.bind (same_ev _ _ _ _ _ _ _ _ (by decide) five_PB.tiers) (Ev.both (Ev.now _) ?_)
  exact sameB_refl _ _ _ _
end Go.Proofs.YthbnigjckjkmnaaDoor.S

namespace Go.Proofs.YthbnigjckjkmnaaDoor.S
open Go.RowKit Go.Proofs.YthbnigjckjkmnaaDoorW.PrintWords Go.Proofs.YthbnigjckjkmnaaDoorW.PrintLast Go.Proofs.YthbnigjckjkmnaaDoorW.PrintMore Go.Proofs.YthbnigjckjkmnaaDoor.Pure
theorem rnode_l0 (a b : Nd) (hl : a.f4.length ≤ 140737488351232) (he : a.f4.length = b.f4.length) (d : Nat) : ∀ i, i + d = a.f4.length →
    Ev (fun k => zAZ.l0 k (i : Int) a.f0 a.f1 a.f2 a.f3 a.f4 a.f5 b.f0 b.f1 b.f2 b.f3 b.f4 b.f5) (listEq tierEq (a.f4.drop i) (b.f4.drop i)) := by
  induction d with
  | zero =>
    intro i hi
    rw [List.drop_of_length_le (by omega), List.drop_of_length_le (by omega)]
    exact Ev.step (f := fun _ => some true) (fun k => by simp only [zAZ.l0]; rw [if_neg (by omega)]) (Ev.now _)
  | succ d ih =>
    intro i hi
    have h : i < a.f4.length := by omega
    have h' : i < b.f4.length := by omega
    refine Ev.step (fun k => by simp only [zAZ.l0]; rw [if_pos (by omega), if_pos (by omega), if_pos (by omega), rdT _ i h, rdT _ i h', w_up i (by omega)]) ?_
    rw [List.drop_eq_getElem_cons h, List.drop_eq_getElem_cons h', listEq, tierEq]
    by_cases c : (!(a.f4[i].f0 == b.f4[i].f0) || !(a.f4[i].f1 == b.f4[i].f1)) = true
    · refine Ev.ifp c (Ev.both (Ev.now _) ?_)
      cases h1 : (a.f4[i].f0 == b.f4[i].f0) <;> cases h2 : (a.f4[i].f1 == b.f4[i].f1) <;> simp [h1, h2] at c ⊢
    · refine Ev.ifn c (Ev.both (ih (i + 1) (by omega)) ?_)
      cases h1 : (a.f4[i].f0 == b.f4[i].f0) <;> cases h2 : (a.f4[i].f1 == b.f4[i].f1) <;> simp [h1, h2] at c ⊢
theorem rnode_ev (a b : Nd) (hl : a.f4.length ≤ 140737488351232) : Ev (fun k => zAZ.f k a.f0 a.f1 a.f2 a.f3 a.f4 a.f5 b.f0 b.f1 b.f2 b.f3 b.f4 b.f5) (nodeEq a b) := by
  have hbad : Ev (fun k => zAZ.j0 k true a.f0 a.f1 a.f2 a.f3 a.f4 a.f5 b.f0 b.f1 b.f2 b.f3 b.f4 b.f5) false := by
    refine Ev.step (fun k => by simp only [zAZ.j0]; rfl) ?_
    exact Ev.ifp trivial (Ev.now _)
  unfold zAZ.f nodeEq
  by_cases c0 : a.f0 = b.f0
  · refine Ev.ifp c0 ?_
    by_cases c1 : a.f1 = b.f1
    · refine Ev.ifp c1 ?_
      by_cases c2 : a.f2 = b.f2
      · refine Ev.ifp c2 ?_
        by_cases c3 : a.f3 = b.f3
        · refine Ev.ifp c3 ?_
          by_cases he : a.f4.length = b.f4.length
          · have := rnode_l0 a b hl he a.f4.length 0 (by omega)
            refine Ev.step (fun k => by simp only [zAZ.j0]; rfl) (Ev.ifn (by simp [he]) (Ev.both this ?_))
            simp [c0, c1, c2, c3]
          · rw [show ((a.f4.length : Int) != (b.f4.length : Int)) = true by simp; omega]
            exact Ev.both hbad (by rw [listEq_len _ _ _ he]; simp)
        · exact Ev.ifn c3 (Ev.both hbad (by simp [c3]))
      · exact Ev.ifn c2 (Ev.both hbad (by simp [c2]))
    · exact Ev.ifn c1 (Ev.both hbad (by simp [c1]))
  · exact Ev.ifn c0 (Ev.both hbad (by simp [c0]))
theorem rsame_l1 (a0 : ByteArray) (l1 : List Dm) (a2 : Int) (l3 : List Nd) (b0 : ByteArray) (m1 : List Dm) (b2 : Int) (m3 : List Nd) (hl : l3.length ≤ 140737488351232) (he : l3.length = m3.length) (ht : ∀ n ∈ l3, n.f4.length ≤ 140737488351232) (d : Nat) : ∀ i, i + d = l3.length →
    Ev (fun k => zAL.l1 k (i : Int) a0 l1 a2 l3 b0 m1 b2 m3) (listEq nodeEq (l3.drop i) (m3.drop i)) := by
  induction d with
  | zero =>
    intro i hi
    rw [List.drop_of_length_le (by omega), List.drop_of_length_le (by omega)]
    exact Ev.step (f := fun _ => some true) (fun k => by simp only [zAL.l1]; rw [if_neg (by omega)]) (Ev.now _)
  | succ d ih =>
    intro i hi
    have h : i < l3.length := by omega
    have h' : i < m3.length := by omega
    refine Ev.step (fun k => by simp only [zAL.l1]; rw [if_pos (by omega), if_pos (by omega), if_pos (by omega), rdN _ i h, rdN _ i h', w_up i (by omega)]) ?_
    rw [List.drop_eq_getElem_cons h, List.drop_eq_getElem_cons h', listEq]
    refine Ev.bind (rnode_ev _ _ (ht _ (List.getElem_mem h))) ?_
    cases hq : nodeEq l3[i] m3[i] with
    | true => exact Ev.ifp rfl (Ev.both (ih (i + 1) (by omega)) (by simp))
    | false => exact Ev.ifn (by decide) (Ev.now _)
theorem rsame_l0 (a0 : ByteArray) (l1 : List Dm) (a2 : Int) (l3 : List Nd) (b0 : ByteArray) (m1 : List Dm) (b2 : Int) (m3 : List Nd) (hl : l1.length ≤ 140737488351232) (he : l1.length = m1.length) (nx : Bool) (hn : Ev (fun k => zAL.l1 k ((0 : Nat) : Int) a0 l1 a2 l3 b0 m1 b2 m3) nx) (d : Nat) : ∀ i, i + d = l1.length →
    Ev (fun k => zAL.l0 k (i : Int) a0 l1 a2 l3 b0 m1 b2 m3) (listEq dimEq (l1.drop i) (m1.drop i) && nx) := by
  induction d with
  | zero =>
    intro i hi
    rw [List.drop_of_length_le (by omega), List.drop_of_length_le (by omega)]
    refine Ev.step (f := fun k => zAL.l1 k ((0 : Nat) : Int) a0 l1 a2 l3 b0 m1 b2 m3) (fun k => by simp only [zAL.l0]; rw [if_neg (by omega)]; rfl) (Ev.both hn (by simp [listEq]))
  | succ d ih =>
    intro i hi
    have h : i < l1.length := by omega
    have h' : i < m1.length := by omega
    refine Ev.step (fun k => by simp only [zAL.l0]; rw [if_pos (by omega), if_pos (by omega), if_pos (by omega), rdD _ i h, rdD _ i h', w_up i (by omega)]) ?_
    rw [List.drop_eq_getElem_cons h, List.drop_eq_getElem_cons h', listEq, dimEq]
    by_cases c : (!(l1[i].f0.toList == m1[i].f0.toList) || !(l1[i].f1 == m1[i].f1)) = true
    · refine Ev.ifp c (Ev.both (Ev.now _) ?_)
      cases h1 : (l1[i].f0.toList == m1[i].f0.toList) <;> cases h2 : (l1[i].f1 == m1[i].f1) <;> simp [h1, h2] at c ⊢
    · refine Ev.ifn c (Ev.both (ih (i + 1) (by omega)) ?_)
      cases h1 : (l1[i].f0.toList == m1[i].f0.toList) <;> cases h2 : (l1[i].f1 == m1[i].f1) <;> simp [h1, h2] at c ⊢
theorem rsame_ev (a0 : ByteArray) (l1 : List Dm) (a2 : Int) (l3 : List Nd) (b0 : ByteArray) (m1 : List Dm) (b2 : Int) (m3 : List Nd) (h1 : l1.length ≤ 140737488351232) (hl : l3.length ≤ 140737488351232) (h3 : ∀ n ∈ l3, n.f4.length ≤ 140737488351232) :
    Ev (fun k => zAL.f k a0 l1 a2 l3 b0 m1 b2 m3) (sameB a0 l1 a2 l3 b0 m1 b2 m3) := by
  have hbad : Ev (fun k => zAL.j0 k true a0 l1 a2 l3 b0 m1 b2 m3) false := by
    refine Ev.step (fun k => by simp only [zAL.j0]; rfl) ?_
    exact Ev.ifp trivial (Ev.now _)
  unfold zAL.f sameB
  by_cases c0 : a0.toList = b0.toList
  · refine Ev.ifp c0 ?_
    by_cases c2 : a2 = b2
    · refine Ev.ifp c2 ?_
      by_cases e1 : l1.length = m1.length
      · refine Ev.ifp (by omega) ?_
        by_cases e3 : l3.length = m3.length
        · rw [show ((l3.length : Int) != (m3.length : Int)) = false by simp [e3]]
          have n1 := rsame_l1 a0 l1 a2 l3 b0 m1 b2 m3 hl e3 h3 l3.length 0 (by omega)
          have n0 := rsame_l0 a0 l1 a2 l3 b0 m1 b2 m3 h1 e1 _ n1 l1.length 0 (by omega)
          refine Ev.step (fun k => by simp only [zAL.j0]; rfl) (Ev.ifn (by decide) (Ev.both n0 ?_))
          simp [c0, c2]
        · rw [show ((l3.length : Int) != (m3.length : Int)) = true by simp; omega]
          exact Ev.both hbad (by rw [listEq_len _ l3 m3 e3]; simp)
      · exact Ev.ifn (by omega) (Ev.both hbad (by rw [listEq_len _ l1 m1 e1]; simp))
    · exact Ev.ifn c2 (Ev.both hbad (by simp [c2]))
  · exact Ev.ifn c0 (Ev.both hbad (by simp [c0]))
end Go.Proofs.YthbnigjckjkmnaaDoor.S

namespace Go.Proofs.YthbnigjckjkmnaaDoor.S
open Go.RowKit Go.Proofs.YthbnigjckjkmnaaDoorW.PrintWords Go.Proofs.YthbnigjckjkmnaaDoorW.PrintLast Go.Proofs.YthbnigjckjkmnaaDoorW.PrintMore Go.Proofs.YthbnigjckjkmnaaDoor.Pure
theorem listEq_symm {α : Type} (p : α → α → Bool) (hp : ∀ a b, p a b = p b a) : ∀ xs ys : List α, listEq p xs ys = listEq p ys xs
  | [], [] => rfl
  | [], _ :: _ => rfl
  | _ :: _, [] => rfl
  | a :: xs, b :: ys => by rw [listEq, listEq, hp a b, listEq_symm p hp xs ys]
theorem beq_two {α : Type} [BEq α] [LawfulBEq α] (a b : α) : (a == b) = (b == a) := BEq.comm
theorem tierEq_symm (a b : Tr) : tierEq a b = tierEq b a := by unfold tierEq; rw [beq_two a.f0, beq_two a.f1]
theorem dimEq_symm (a b : Dm) : dimEq a b = dimEq b a := by unfold dimEq; rw [beq_two a.f0.toList, beq_two a.f1]
theorem nodeEq_symm (a b : Nd) : nodeEq a b = nodeEq b a := by unfold nodeEq; rw [beq_two a.f0, beq_two a.f1, beq_two a.f2, beq_two a.f3, listEq_symm tierEq tierEq_symm]
theorem sameB_symm (a0 : ByteArray) (l1 : List Dm) (a2 : Int) (l3 : List Nd) (b0 : ByteArray) (m1 : List Dm) (b2 : Int) (m3 : List Nd) : sameB a0 l1 a2 l3 b0 m1 b2 m3 = sameB b0 m1 b2 m3 a0 l1 a2 l3 := by
  unfold sameB
  rw [beq_two a0.toList, beq_two a2, listEq_symm dimEq dimEq_symm, listEq_symm nodeEq nodeEq_symm]
def core (n : Nd) : Nd := ⟨n.f0, n.f1, n.f2, n.f3, n.f4, 0⟩
theorem core_eq {a b : Nd} (h : core a = core b) : nodeEq a b = true ∧ a.f4 = b.f4 := by
  unfold core at h
  injection h with h0 h1 h2 h3 h4
  exact ⟨by simp [nodeEq, h0, h1, h2, h3, h4, listEq_refl tierEq tierEq_refl], h4⟩
theorem core_list : ∀ (l m : List Nd), l.map core = m.map core → listEq nodeEq l m = true ∧ ∀ n ∈ m, ∃ n' ∈ l, n.f4 = n'.f4
  | [], [], _ => ⟨rfl, fun n h => by cases h⟩
  | [], _ :: _, h => by simp at h
  | _ :: _, [], h => by simp at h
  | a :: l, b :: m, h => by
    simp only [List.map_cons] at h
    injection h with h1 h2
    obtain ⟨e1, e2⟩ := core_list l m h2
    obtain ⟨c1, c2⟩ := core_eq h1
    refine ⟨by rw [listEq, c1, e1]; rfl, fun n hn => ?_⟩
    rcases List.mem_cons.1 hn with rfl | hn
    · exact ⟨a, List.mem_cons_self, c2.symm⟩
    · obtain ⟨n', q1, q2⟩ := e2 n hn
      exact ⟨n', List.mem_cons_of_mem _ q1, q2⟩
theorem core_set (l m : List Nd) (h : l.map core = m.map core) (i : Nat) (hi : i < m.length) (x : Int) : l.map core = (m.set i ⟨m[i].f0, m[i].f1, m[i].f2, m[i].f3, m[i].f4, x⟩).map core := by
  rw [List.map_set, h, show core ⟨m[i].f0, m[i].f1, m[i].f2, m[i].f3, m[i].f4, x⟩ = (m.map core)[i]'(by simpa using hi) by simp [core], List.set_getElem_self]
theorem sames_l0 {a0 : ByteArray} {l1 : List Dm} {a2 : Int} {l3 : List Nd} {b0 : ByteArray} {m1 : List Dm} {b2 : Int} {m3 : List Nd} (x : Int) (h : PB2 a0 l1 a2 l3) (h' : PB2 b0 m1 b2 m3) (d : Nat) : ∀ (i : Nat) (z : List Nd), i + d = l3.length → z.length = l3.length → l3.map core = z.map core →
    Ev (fun k => zAW.l0 k x (i : Int) a0 l1 a2 l3 b0 m1 b2 m3 a0 l1 a2 z) true := by
  have hn := h.nodes
  induction d with
  | zero =>
    intro i z hi hz hc
    obtain ⟨e1, e2⟩ := core_list l3 z hc
    have t1 : sameB a0 l1 a2 l3 a0 l1 a2 z = true := by simp [sameB, listEq_refl dimEq dimEq_refl, e1]
    have hzt : ∀ n ∈ z, n.f4.length ≤ 140737488351232 := fun n hn => by
      obtain ⟨n', q1, q2⟩ := e2 n hn
      rw [q2]; exact h.pb.tiers n' q1
    have s1 := same_ev a0 l1 a2 l3 b0 m1 b2 m3 h.pb.dims h.pb.tiers
    have s2 := rsame_ev a0 l1 a2 l3 b0 m1 b2 m3 h.pb.dims h.pb.nodes h.pb.tiers
    have s3 := same_ev b0 m1 b2 m3 a0 l1 a2 l3 h'.pb.dims h'.pb.tiers
    have s4 := same_ev a0 l1 a2 l3 a0 l1 a2 z h.pb.dims h.pb.tiers
    have s5 := same_ev a0 l1 a2 z a0 l1 a2 l3 h.pb.dims hzt
    rw [t1] at s4
    rw [sameB_symm, t1] at s5
    refine Ev.step (fun k => by simp only [zAW.l0]; rw [if_neg (by omega)]) ?_
    refine Ev.bind s1 (Ev.bind s2 (Ev.ifp (by simp) (Ev.bind s3 (Ev.bind s1 (Ev.ifp (by rw [sameB_symm b0]; simp) (Ev.bind s4 (Ev.ifp rfl (Ev.bind s5 (Ev.now _)))))))))
  | succ d ih =>
    intro i z hi hz hc
    have hlt : i < z.length := by omega
    refine Ev.step (fun k => by simp only [zAW.l0]; rw [if_pos (by omega), if_pos (by omega), rdN z i hlt, w_up i (by omega), Int.toNat_natCast]) ?_
    exact ih (i + 1) _ (by omega) (by simpa using hz) (core_set l3 z hc i hlt x)
theorem TreeSames (a0 : ByteArray) (l1 : List Dm) (a2 : Int) (l3 : List Nd) (b0 : ByteArray) (m1 : List Dm) (b2 : Int) (m3 : List Nd) (x : Int) (h : PB2 a0 l1 a2 l3) (h' : PB2 b0 m1 b2 m3) (hx : (Lit.int .i64 x).wf = true) :
    ∃ k, zAW.f k a0 l1 a2 l3 b0 m1 b2 m3 x = some true := by
  refine Ev.rounds (g := fun k => zAW.f k a0 l1 a2 l3 b0 m1 b2 m3 x) ?_
  unfold zAW.f
  refine Ev.bind awake_ev (Ev.ifp rfl ?_)
  by_cases c : (l3.length : Int) > 4096
  · exact Ev.ifp c (Ev.now _)
  · refine Ev.ifn c (Ev.pre rfl (Ev.ifp (by simp; omega) ?_))
    rw [List.nil_append]
    exact sames_l0 x h h' l3.length 0 l3 (by omega) rfl rfl
end Go.Proofs.YthbnigjckjkmnaaDoor.S
