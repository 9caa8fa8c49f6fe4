/- What the proof needs, part 13 of 18. Two plans with types, put together under a node that takes two, have the types of both and money; multiplied they have none; with a number ahead they have. For every two plans that the card lets in. -/
import Derived.Test.YthbnigjckjkmnaaDoorBUnitsGrow5
import Derived.Test.YthbnigjckjkmnaaDoorBUnitsGrow12
import Derived.Test.YthbnigjckjkmnaaDoorBUnitsGrow6
set_option linter.unusedVariables false
set_option linter.unusedSimpArgs false
namespace Go.Proofs.YthbnigjckjkmnaaDoor.S
open Go.RowKit Go.Proofs.YthbnigjckjkmnaaDoorW.PrintWords Go.Proofs.YthbnigjckjkmnaaDoorW.PrintLast Go.Proofs.YthbnigjckjkmnaaDoorW.PrintMore
attribute [local go_sem] max2_int min2_int max_two min_two max_three min_three max_four min_four
mutual
def zAG.l0:Nat→List Bool→List Int→List Int→List Bool→List (S33)→Int→Int→Option (List Int × Int × Int)
 |0,_,_,_,_,_,_,_=>none
 |k+1,x7,x9,x10,x11,x33,x34,x35=>if x35<x34 then (if 0≤x35 then (if x35<(x33.length:Int) then ((units_rules.f ((zAC x33 x35).f0)).bind fun bt621=>(if bt621.2<0 then (zAG.j1 k x7 x9 x10 x11 x35 bt621.1 ((zAC x33 x35).f3) x33 x34 x35 ((zAC x33 x35).f0) ((zAC x33 x35).f1) ((zAC x33 x35).f2) ((zAC x33 x35).f3) ((zAC x33 x35).f4) ((zAC x33 x35).f5)) else (zAG.j1 k x7 x9 x10 x11 x35 bt621.1 bt621.2 x33 x34 x35 ((zAC x33 x35).f0) ((zAC x33 x35).f1) ((zAC x33 x35).f2) ((zAC x33 x35).f3) ((zAC x33 x35).f4) ((zAC x33 x35).f5)))) else (none)) else (none)) else (if 0<(x10.length:Int) then (if (rd x10 0)=1 then (some (x9,0,0)) else (some (([]:List Int),wrap64 ((x9.length:Int) - 1),80))) else (none))
def zAG.j1:Nat→List Bool→List Int→List Int→List Bool→Int→Int→Int→List (S33)→Int→Int→Int→Int→Int→Int→List (S45)→Int→Option (List Int × Int × Int)
 |0,_,_,_,_,_,_,_,_,_,_,_,_,_,_,_,_=>none
 |k+1,x7,x9,x10,x11,x12,x14,x15,x33,x34,x35,x621000,x621001,x621002,x621003,x621004,x621005=>if 0≤(wrap64 ((x10.length:Int) - x15)) then (if (wrap64 ((x10.length:Int) - x15))≤(x10.length:Int) then (if (wrap64 ((x10.length:Int) - x15))≤(x11.length:Int) then ((units_dyn.f k x14 x621000 x621001 x621002 x621003 x621004 x621005 (x10.drop ((wrap64 ((x10.length:Int) - x15)):Int).toNat) (x11.drop ((wrap64 ((x10.length:Int) - x15)):Int).toNat)).bind fun t631=>(if t631=(-1) then (some (([]:List Int),x12,80)) else (if x621000=8 then (if (wrap64 ((x10.length:Int) - x15))<(x11.length:Int) then (if (rdOf false x11 (wrap64 ((x10.length:Int) - x15))=true) then (if x9.length<17592186044416 then ((some (x10.take ((wrap64 ((x10.length:Int) - x15)):Int).toNat:List Int)).bind fun y636=>(if y636.length<17592186044416 then ((some (x11.take ((wrap64 ((x10.length:Int) - x15)):Int).toNat:List Bool)).bind fun y642=>(if 0≤x12 then (if x12<(x7.length:Int) then (if y642.length<140737488355328 then (zAG.l0 k x7 (x9 ++ [t631]) (y636 ++ [t631]) (y642 ++ [rdOf false x7 x12]) x33 x34 (wrap64 (x35+1))) else (none)) else (none)) else (none))) else (none))) else (none)) else (if 0≤(wrap64 ((wrap64 ((x10.length:Int) - x15))+1)) then (if (wrap64 ((wrap64 ((x10.length:Int) - x15))+1))<(x11.length:Int) then (if (rdOf false x11 (wrap64 ((wrap64 ((x10.length:Int) - x15))+1))=true) then (if x9.length<17592186044416 then ((some (x10.take ((wrap64 ((x10.length:Int) - x15)):Int).toNat:List Int)).bind fun y653=>(if y653.length<17592186044416 then ((some (x11.take ((wrap64 ((x10.length:Int) - x15)):Int).toNat:List Bool)).bind fun y659=>(if 0≤x12 then (if x12<(x7.length:Int) then (if y659.length<140737488355328 then (zAG.l0 k x7 (x9 ++ [t631]) (y653 ++ [t631]) (y659 ++ [rdOf false x7 x12]) x33 x34 (wrap64 (x35+1))) else (none)) else (none)) else (none))) else (none))) else (none)) else (some (([]:List Int),x12,81))) else (none)) else (none))) else (none)) else (if x9.length<17592186044416 then ((some (x10.take ((wrap64 ((x10.length:Int) - x15)):Int).toNat:List Int)).bind fun y669=>(if y669.length<17592186044416 then ((some (x11.take ((wrap64 ((x10.length:Int) - x15)):Int).toNat:List Bool)).bind fun y675=>(if 0≤x12 then (if x12<(x7.length:Int) then (if y675.length<140737488355328 then (zAG.l0 k x7 (x9 ++ [t631]) (y669 ++ [t631]) (y675 ++ [rdOf false x7 x12]) x33 x34 (wrap64 (x35+1))) else (none)) else (none)) else (none))) else (none))) else (none))))) else (none)) else (none)) else (none)
end
def zAG.f (k:Nat) (a0_0:ByteArray) (l0_1:List (S47)) (a0_2:Int) (l0_3:List (S33)):Option (List Int × Int × Int):=(tree_Check.f k a0_0 l0_1 a0_2 l0_3).bind fun bt612=>(if bt612.2=0 then ((zAV.f k a0_0 l0_1 a0_2 l0_3).bind fun bt614=>(zAG.l0 k bt614.1 ([]:List Int) ([]:List Int) ([]:List Bool) l0_3 (l0_3.length:Int) 0)) else (some (([]:List Int),bt612.1,bt612.2)))
theorem zAG.mono_l:∀ k,(∀ y0 y1 y2 y3 y4 y5 y6,LeO (zAG.l0 k y0 y1 y2 y3 y4 y5 y6) (zAG.l0 (k+1) y0 y1 y2 y3 y4 y5 y6))∧(∀ y0 y1 y2 y3 y4 y5 y6 y7 y8 y9 y10 y11 y12 y13 y14 y15,LeO (zAG.j1 k y0 y1 y2 y3 y4 y5 y6 y7 y8 y9 y10 y11 y12 y13 y14 y15) (zAG.j1 (k+1) y0 y1 y2 y3 y4 y5 y6 y7 y8 y9 y10 y11 y12 y13 y14 y15))
 |0=>⟨fun _ _ _ _ _ _ _ r h=>by simp [zAG.l0] at h,fun _ _ _ _ _ _ _ _ _ _ _ _ _ _ _ _ r h=>by simp [zAG.j1] at h⟩
 |k+1=>by
  obtain ⟨ih0,ih1⟩:=zAG.mono_l k
  refine ⟨?_,?_⟩
  ·intro y0 y1 y2 y3 y4 y5 y6
   unfold zAG.l0
   repeat' first
   |(with_reducible exact ih0 _ _ _ _ _ _ _)
   |(with_reducible exact ih1 _ _ _ _ _ _ _ _ _ _ _ _ _ _ _ _)
   |(with_reducible exact tree_Check.mono _ _ _ _ _)
   |(with_reducible exact zAV.mono _ _ _ _ _)
   |(with_reducible exact units_dyn.mono _ _ _ _ _ _ _ _ _ _)
   |(with_reducible exact LeO.refl _)
   |(with_reducible exact LeO.none _)
   |(with_reducible refine LeO.ite ?_ ?_)
   |(with_reducible refine LeO.bind ?_ (fun _=>?_))
   |exact ih0 _ _ _ _ _ _ _
   |exact ih1 _ _ _ _ _ _ _ _ _ _ _ _ _ _ _ _
   |exact tree_Check.mono _ _ _ _ _
   |exact zAV.mono _ _ _ _ _
   |exact units_dyn.mono _ _ _ _ _ _ _ _ _ _
   |exact LeO.none _
   |refine LeO.ite ?_ ?_
   |refine LeO.bind ?_ (fun _=>?_)
  ·intro y0 y1 y2 y3 y4 y5 y6 y7 y8 y9 y10 y11 y12 y13 y14 y15
   unfold zAG.j1
   repeat' first
   |(with_reducible exact ih0 _ _ _ _ _ _ _)
   |(with_reducible exact ih1 _ _ _ _ _ _ _ _ _ _ _ _ _ _ _ _)
   |(with_reducible exact tree_Check.mono _ _ _ _ _)
   |(with_reducible exact zAV.mono _ _ _ _ _)
   |(with_reducible exact units_dyn.mono _ _ _ _ _ _ _ _ _ _)
   |(with_reducible exact LeO.refl _)
   |(with_reducible exact LeO.none _)
   |(with_reducible refine LeO.ite ?_ ?_)
   |(with_reducible refine LeO.bind ?_ (fun _=>?_))
   |exact ih0 _ _ _ _ _ _ _
   |exact ih1 _ _ _ _ _ _ _ _ _ _ _ _ _ _ _ _
   |exact tree_Check.mono _ _ _ _ _
   |exact zAV.mono _ _ _ _ _
   |exact units_dyn.mono _ _ _ _ _ _ _ _ _ _
   |exact LeO.none _
   |refine LeO.ite ?_ ?_
   |refine LeO.bind ?_ (fun _=>?_)
theorem zAG.mono:∀ a0 a1 a2 a3 k,LeO (zAG.f k a0 a1 a2 a3) (zAG.f (k+1) a0 a1 a2 a3):=by
 intro a0 a1 a2 a3 k
 obtain ⟨ih0,ih1⟩:=zAG.mono_l k
 unfold zAG.f
 repeat' first
   |(with_reducible exact ih0 _ _ _ _ _ _ _)
   |(with_reducible exact ih1 _ _ _ _ _ _ _ _ _ _ _ _ _ _ _ _)
   |(with_reducible exact tree_Check.mono _ _ _ _ _)
   |(with_reducible exact zAV.mono _ _ _ _ _)
   |(with_reducible exact units_dyn.mono _ _ _ _ _ _ _ _ _ _)
   |(with_reducible exact LeO.refl _)
   |(with_reducible exact LeO.none _)
   |(with_reducible refine LeO.ite ?_ ?_)
   |(with_reducible refine LeO.bind ?_ (fun _=>?_))
   |exact ih0 _ _ _ _ _ _ _
   |exact ih1 _ _ _ _ _ _ _ _ _ _ _ _ _ _ _ _
   |exact tree_Check.mono _ _ _ _ _
   |exact zAV.mono _ _ _ _ _
   |exact units_dyn.mono _ _ _ _ _ _ _ _ _ _
   |exact LeO.none _
   |refine LeO.ite ?_ ?_
   |refine LeO.bind ?_ (fun _=>?_)
def zAG.T14:Bool × List (List Nat × List Nat):=(true,[([],[]),([],[]),([],[]),([],[]),([2,3],[2,3]),([],[]),([],[]),([5,6],[5,6]),([1,4,7],[1,4,7]),([0,8],[0,8]),([9,9,0,1,2,3,4,5,6,7,8,9],[9])])
def zAG.B14:List Nat:=[0,0,0,0,12,0,0,96,254,511,1023]
theorem zAG.tab14:rtab .any (opsOf Tryd.f33 14)=zAG.T14:=by kernel_rfl
theorem zAG.bits14:waitsOk zAG.T14.2 zAG.B14=true:=by kernel_rfl
def zAG.T21:Bool × List (List Nat × List Nat):=(true,[([],[]),([],[]),([0,1],[0,1]),([],[]),([],[]),([3,4],[3,4]),([5],[5]),([6],[6]),([2,7],[2,7]),([8,8,0,1,2,3,4,5,6,7,8],[0,8])])
def zAG.B21:List Nat:=[0,0,3,0,0,24,56,120,255,511]
theorem zAG.tab21:rtab .any (opsOf Tryd.f33 21)=zAG.T21:=by kernel_rfl
theorem zAG.bits21:waitsOk zAG.T21.2 zAG.B21=true:=by kernel_rfl
set_option maxHeartbeats 8000000 in
set_option maxRecDepth 100000 in
theorem zAG.calls (k:Nat) (a0_0:ByteArray) (A0_1:Option Addr) (c0_1:Nat) (l0_1:List (S47)) (a0_2:Int) (A0_3:Option Addr) (c0_3:Nat) (l0_3:List (S33)) (r1:List Int) (r2:Int) (r3:Int) (w:World) (hG:GW w) (hr0_1:Kd.C k47 w A0_1 l0_1.length l0_1) (hc0_1:l0_1.length≤c0_1) (hr0_3:Kd.C k33 w A0_3 l0_3.length l0_3) (hc0_3:l0_3.length≤c0_3) (h:zAG.f k a0_0 l0_1 a0_2 l0_3=some (r1,r2,r3)) :
  Calls Tryd.prog 33 #[.agg #[.string a0_0,.slice A0_1 l0_1.length c0_1,.int .i64 a0_2,.slice A0_3 l0_3.length c0_3]] w fun e w'=>∃ v0_:Value,e = .returned (.tuple #[v0_,.int .i64 r2,.int .i64 r3])∧Kd.R (Kd.int .i64) 3 w' w.heap.size (fun _=>True) v0_ r1∧Below w.heap.size w w':=by
 have hu25:=Tryd.underlying25
 have hu33:=Tryd.underlying33
 have hu75:=Tryd.underlying75
 have HR0_1:=aK_ hr0_1
 have HC0_1:=aK_ hc0_1
 clear hr0_1 hc0_1
 have HR0_3:=aK_ hr0_3
 have HC0_3:=aK_ hc0_3
 clear hr0_3 hc0_3
 have HB:=aK_ (Below.refl w.heap.size w)
 have H:((tree_Check.f k a0_0 l0_1 a0_2 l0_3).bind fun bt612=>(if bt612.2=0 then ((zAV.f k a0_0 l0_1 a0_2 l0_3).bind fun bt614=>(zAG.l0 k bt614.1 ([]:List Int) ([]:List Int) ([]:List Bool) l0_3 (l0_3.length:Int) 0)) else (some (([]:List Int),bt612.1,bt612.2))))=some (r1,r2,r3):=h
 clear h
 replace H:=Option.bind_eq_some_iff.mp H
 obtain ⟨⟨t612,t613⟩,A20,H⟩:=H
 replace H:(if t613=0 then ((zAV.f k a0_0 l0_1 a0_2 l0_3).bind fun bt614=>(zAG.l0 k bt614.1 ([]:List Int) ([]:List Int) ([]:List Bool) l0_3 (l0_3.length:Int) 0)) else (some (([]:List Int),t612,t613)))=some (r1,r2,r3):=H
 have A2:=aK_ A20
 clear A20
 by_cases c3:t613=0
 rotate_left
 ·rw [if_neg c3] at H
  have c3b0:(t613 == 0)=false:=beq_eq_false_iff_ne.mpr c3
  have c3b1:(t613 != 0)=true:=bne_iff_ne.mpr c3
  simp only [Option.some.injEq,Prod.mk.injEq] at H
  obtain ⟨rfl,rfl,rfl⟩:=H
  go_enter Tryd.func33,Tryd.ntmps33
  go_wp2_with (first|((with_reducible refine zAQ (N:=1) rfl ?_);refine zAS ?hg (N:=1) ?hd (cs:=#[.string a0_0,.slice A0_1 l0_1.length c0_1,.int .i64 a0_2,.slice A0_3 l0_3.length c0_3]) (t:=25) ?hr ?_;(case hd=>rfl);(case hg=>rfl);(case hr=>first|(go_simp;done)|(go_simp;rfl));intro gb611 hg w124 hbox hb;have n0_:=aK_ (zAH (aH_ HB.out) hb);have n1_:=aK_ (hbox);have n2_:=aK_ ((by rw [hg];exact (zAE (aH_ HB.out)):w.heap.size≤gb611));have n3_:=aK_ ((by rw [hg];exact (zAE (aH_ HB.out)):w.heap.size≤gb611));clear HB;have HB:=n0_;have BK611:=n1_;have GW611:=n2_;have GE611:=n3_;clear n0_ n1_ n2_ n3_;clear hb hbox hg;have hcz125_0:w124.cell? ⟨gb611,0,none⟩=some (.string a0_0):=(zAB BK611.out 0).trans rfl;have hcz125_1:w124.cell? ⟨gb611,1,none⟩=some (.slice A0_1 l0_1.length c0_1):=(zAB BK611.out 1).trans rfl;have hcz125_2:w124.cell? ⟨gb611,2,none⟩=some (.int .i64 a0_2):=(zAB BK611.out 2).trans rfl;have hcz125_3:w124.cell? ⟨gb611,3,none⟩=some (.slice A0_3 l0_3.length c0_3):=(zAB BK611.out 3).trans rfl;have hfz125_0:=zAA BK611.out 0;have hfz125_1:=zAA BK611.out 1;have hfz125_2:=zAA BK611.out 2;have hfz125_3:=zAA BK611.out 3)|((with_reducible refine gate_callee (f:=16) rfl ?_);refine goesL_ (some 20) rfl rfl Tryd.func16 (by kernel_rfl) rfl #[.agg #[.string a0_0,.slice A0_1 l0_1.length c0_1,.int .i64 a0_2,.slice A0_3 l0_3.length c0_3]] rfl aM_ ?_;(with_reducible refine (tree_Check.calls k a0_0 _ _ l0_1 a0_2 _ _ l0_3 t612 t613 _ ?side1 ?side2 ?side3 ?side4 ?side5 A2.out).mono ?_);(case side1=>(first|(with_reducible exact hG)|((repeat (with_reducible first|exact hG|apply GW.drewN|apply GW.drew|apply GW.alloc));done)|exact GW.below hG (aI_ HB.out GE611.out)));(case side2=>repeat (first|exact (Kd.C_below HR0_1.out HB.out)|(with_reducible refine Kd.C_alloc ?_ _)|(with_reducible refine Kd.C_drewN ?_ _)|(with_reducible refine Kd.C_drew ?_)));(case side3=>exact HC0_1.out);(case side4=>repeat (first|exact (Kd.C_below HR0_3.out HB.out)|(with_reducible refine Kd.C_alloc ?_ _)|(with_reducible refine Kd.C_drewN ?_ _)|(with_reducible refine Kd.C_drew ?_)));(case side5=>exact HC0_3.out);rintro e w126 ⟨rfl,hb⟩;refine ⟨_,rfl,?_⟩;have n0_:=aK_ (zAN (g:=gb611) (o:=.cells #[.string a0_0,.slice A0_1 l0_1.length c0_1,.int .i64 a0_2,.slice A0_3 l0_3.length c0_3] 25 (0,0)) (aB_ BK611.out) hb);have n1_:=aK_ (zAH (aI_ HB.out GE611.out) hb);clear BK611;clear HB;have BK611:=n0_;have HB:=n1_;clear n0_ n1_;(try clear hb);(try clear hb2);(try clear hk);(try clear hi)))
  go_ret3
  exact ⟨_,by first|rfl|(simp [zAL,zAK] <;> rfl)|(simp [*,zAL,zAK] <;> rfl),by first|exact Kd.R_nil _ _ _ _ _|exact Kd.N_nil _ _ _ _ _|exact Kd.V_nil _ _ _ _ _|exact Kd.Q_nil _ _ _ _ _|exact Kd.S_nil _ _ _ _ _,aI_ HB.out GE611.out⟩
 rw [if_pos c3] at H
 have c3b0:(t613 == 0)=true:=beq_iff_eq.mpr c3
 have c3b1:(t613 != 0)=false:=bne_eq_false_iff_eq.mpr c3
 clear c3
 replace H:=Option.bind_eq_some_iff.mp H
 obtain ⟨⟨t614,t617⟩,A40,H⟩:=H
 replace H:(zAG.l0 k t614 ([]:List Int) ([]:List Int) ([]:List Bool) l0_3 (l0_3.length:Int) 0)=some (r1,r2,r3):=H
 have A4:=aK_ A40
 clear A40
 have H':=aK_ H
 clear H
 go_enter Tryd.func33,Tryd.ntmps33
 go_wp2_with (first|((with_reducible refine zAQ (N:=1) rfl ?_);refine zAS ?hg (N:=1) ?hd (cs:=#[.string a0_0,.slice A0_1 l0_1.length c0_1,.int .i64 a0_2,.slice A0_3 l0_3.length c0_3]) (t:=25) ?hr ?_;(case hd=>rfl);(case hg=>rfl);(case hr=>first|(go_simp;done)|(go_simp;rfl));intro gb611 hg w5 hbox hb;have n0_:=aK_ (zAH (aH_ HB.out) hb);have n1_:=aK_ (hbox);have n2_:=aK_ ((by rw [hg];exact (zAE (aH_ HB.out)):w.heap.size≤gb611));have n3_:=aK_ ((by rw [hg];exact (zAE (aH_ HB.out)):w.heap.size≤gb611));clear HB;have HB:=n0_;have BK611:=n1_;have GW611:=n2_;have GE611:=n3_;clear n0_ n1_ n2_ n3_;clear hb hbox hg;have hcz6_0:w5.cell? ⟨gb611,0,none⟩=some (.string a0_0):=(zAB BK611.out 0).trans rfl;have hcz6_1:w5.cell? ⟨gb611,1,none⟩=some (.slice A0_1 l0_1.length c0_1):=(zAB BK611.out 1).trans rfl;have hcz6_2:w5.cell? ⟨gb611,2,none⟩=some (.int .i64 a0_2):=(zAB BK611.out 2).trans rfl;have hcz6_3:w5.cell? ⟨gb611,3,none⟩=some (.slice A0_3 l0_3.length c0_3):=(zAB BK611.out 3).trans rfl;have hfz6_0:=zAA BK611.out 0;have hfz6_1:=zAA BK611.out 1;have hfz6_2:=zAA BK611.out 2;have hfz6_3:=zAA BK611.out 3)|((with_reducible refine gate_callee (f:=16) rfl ?_);refine goesL_ (some 20) rfl rfl Tryd.func16 (by kernel_rfl) rfl #[.agg #[.string a0_0,.slice A0_1 l0_1.length c0_1,.int .i64 a0_2,.slice A0_3 l0_3.length c0_3]] rfl aM_ ?_;(with_reducible refine (tree_Check.calls k a0_0 _ _ l0_1 a0_2 _ _ l0_3 t612 t613 _ ?side1 ?side2 ?side3 ?side4 ?side5 A2.out).mono ?_);(case side1=>(first|(with_reducible exact hG)|((repeat (with_reducible first|exact hG|apply GW.drewN|apply GW.drew|apply GW.alloc));done)|exact GW.below hG (aI_ HB.out GE611.out)));(case side2=>repeat (first|exact (Kd.C_below HR0_1.out HB.out)|(with_reducible refine Kd.C_alloc ?_ _)|(with_reducible refine Kd.C_drewN ?_ _)|(with_reducible refine Kd.C_drew ?_)));(case side3=>exact HC0_1.out);(case side4=>repeat (first|exact (Kd.C_below HR0_3.out HB.out)|(with_reducible refine Kd.C_alloc ?_ _)|(with_reducible refine Kd.C_drewN ?_ _)|(with_reducible refine Kd.C_drew ?_)));(case side5=>exact HC0_3.out);rintro e w7 ⟨rfl,hb⟩;refine ⟨_,rfl,?_⟩;have n0_:=aK_ (zAN (g:=gb611) (o:=.cells #[.string a0_0,.slice A0_1 l0_1.length c0_1,.int .i64 a0_2,.slice A0_3 l0_3.length c0_3] 25 (0,0)) (aB_ BK611.out) hb);have n1_:=aK_ (zAH (aI_ HB.out GE611.out) hb);clear BK611;clear HB;have BK611:=n0_;have HB:=n1_;clear n0_ n1_;(try clear hb);(try clear hb2);(try clear hk);(try clear hi);have hcz8_0:w7.cell? ⟨gb611,0,none⟩=some (.string a0_0):=(zAB BK611.out 0).trans rfl;have hcz8_1:w7.cell? ⟨gb611,1,none⟩=some (.slice A0_1 l0_1.length c0_1):=(zAB BK611.out 1).trans rfl;have hcz8_2:w7.cell? ⟨gb611,2,none⟩=some (.int .i64 a0_2):=(zAB BK611.out 2).trans rfl;have hcz8_3:w7.cell? ⟨gb611,3,none⟩=some (.slice A0_3 l0_3.length c0_3):=(zAB BK611.out 3).trans rfl;have hfz8_0:=zAA BK611.out 0;have hfz8_1:=zAA BK611.out 1;have hfz8_2:=zAA BK611.out 2;have hfz8_3:=zAA BK611.out 3)|((with_reducible refine gate_callee (f:=27) rfl ?_);refine goesL_ (some 29) rfl rfl Tryd.func27 (by kernel_rfl) rfl #[.agg #[.string a0_0,.slice A0_1 l0_1.length c0_1,.int .i64 a0_2,.slice A0_3 l0_3.length c0_3]] rfl aM_ ?_;(with_reducible refine (zAV.calls k a0_0 _ _ l0_1 a0_2 _ _ l0_3 t614 t617 _ ?side1 ?side2 ?side3 ?side4 ?side5 A4.out).mono ?_);(case side1=>(first|(with_reducible exact hG)|((repeat (with_reducible first|exact hG|apply GW.drewN|apply GW.drew|apply GW.alloc));done)|exact GW.below hG (aI_ HB.out GE611.out)));(case side2=>repeat (first|exact (Kd.C_below HR0_1.out HB.out)|(with_reducible refine Kd.C_alloc ?_ _)|(with_reducible refine Kd.C_drewN ?_ _)|(with_reducible refine Kd.C_drew ?_)));(case side3=>exact HC0_1.out);(case side4=>repeat (first|exact (Kd.C_below HR0_3.out HB.out)|(with_reducible refine Kd.C_alloc ?_ _)|(with_reducible refine Kd.C_drewN ?_ _)|(with_reducible refine Kd.C_drew ?_)));(case side5=>exact HC0_3.out);rintro e w9 ⟨v615,rfl,ho0,hb⟩;refine ⟨_,rfl,?_⟩;have n0_:=aK_ (Kd.R_lower ho0 (zAE (aI_ HB.out GE611.out)));have n1_:=aK_ (zAN (g:=gb611) (o:=.cells #[.string a0_0,.slice A0_1 l0_1.length c0_1,.int .i64 a0_2,.slice A0_3 l0_3.length c0_3] 25 (0,0)) (aB_ BK611.out) hb);have n2_:=aK_ (zAH (aI_ HB.out GE611.out) hb);clear BK611;clear HB;have HO616:=n0_;have BK611:=n1_;have HB:=n2_;clear n0_ n1_ n2_;(try clear hb);(try clear hb2);(try clear hk);(try clear hi);(try clear ho0);have hcz10_0:w9.cell? ⟨gb611,0,none⟩=some (.string a0_0):=(zAB BK611.out 0).trans rfl;have hcz10_1:w9.cell? ⟨gb611,1,none⟩=some (.slice A0_1 l0_1.length c0_1):=(zAB BK611.out 1).trans rfl;have hcz10_2:w9.cell? ⟨gb611,2,none⟩=some (.int .i64 a0_2):=(zAB BK611.out 2).trans rfl;have hcz10_3:w9.cell? ⟨gb611,3,none⟩=some (.slice A0_3 l0_3.length c0_3):=(zAB BK611.out 3).trans rfl;have hfz10_0:=zAA BK611.out 0;have hfz10_1:=zAA BK611.out 1;have hfz10_2:=zAA BK611.out 2;have hfz10_3:=zAA BK611.out 3))
 (try simp only [Act.put,List.setIfInBounds_toArray,List.set_cons_zero,List.set_cons_succ])
 go_loopg [9,10,11,35] k (fun kq v9 v10 v11 v35 w'=>∃ (x9_1:List Int) (x10_1:List Int) (x11_1:List Bool) (x35_1:Int),v35 = .int .i64 x35_1∧zAO (zAG.l0 kq t614 x9_1 x10_1 x11_1 l0_3 (l0_3.length:Int) x35_1=some (r1,r2,r3))∧zAO (kq≤k)∧zAO (Kd.R Kd.bool 4 w' w.heap.size (fun k_=>some k_≠(v11:Value).ownBlock) v615 t614)∧zAO (Kd.R (Kd.int .i64) 3 w' w.heap.size (fun k_=>some k_≠(v10:Value).ownBlock) v9 x9_1)∧zAO (Kd.R (Kd.int .i64) 3 w' w.heap.size (fun k_=>some k_≠(v9:Value).ownBlock) v10 x10_1)∧zAO (Kd.R Kd.bool 4 w' w.heap.size (fun k_=>some k_≠(v615:Value).ownBlock) v11 x11_1)∧zAO (w'.heap[gb611]?=some (.cells #[.string a0_0,(.slice A0_1 l0_1.length c0_1),.int .i64 a0_2,(.slice A0_3 l0_3.length c0_3)] 25 (0,0)))∧zAO (Below w.heap.size w w'))
 case atStart=>exact ⟨(([]:List Int)),(([]:List Int)),(([]:List Bool)),(0),aS2_,H',⟨Nat.le_refl _⟩,⟨by refine aR_ ?_;exact Kd.R_mono HO616.out (fun _ hk=>(by simp [Value.ownBlock]))⟩,⟨by first|exact Kd.R_nil _ _ _ _ _|exact Kd.N_nil _ _ _ _ _|exact Kd.V_nil _ _ _ _ _|exact Kd.Q_nil _ _ _ _ _|exact Kd.S_nil _ _ _ _ _⟩,⟨by first|exact Kd.R_nil _ _ _ _ _|exact Kd.N_nil _ _ _ _ _|exact Kd.V_nil _ _ _ _ _|exact Kd.Q_nil _ _ _ _ _|exact Kd.S_nil _ _ _ _ _⟩,⟨by first|exact Kd.R_nil _ _ _ _ _|exact Kd.N_nil _ _ _ _ _|exact Kd.V_nil _ _ _ _ _|exact Kd.Q_nil _ _ _ _ _|exact Kd.S_nil _ _ _ _ _⟩,⟨aB_ BK611.out⟩,⟨aI_ HB.out GE611.out⟩⟩
 clear H'
 try clear c1
 try clear c2
 try clear p2
 try clear c3
 try clear c3b0
 try clear c3b1
 try clear hcz10_0
 try clear hcz10_1
 try clear hcz10_2
 try clear hcz10_3
 try clear hcz6_0
 try clear hcz6_1
 try clear hcz6_2
 try clear hcz6_3
 try clear hcz8_0
 try clear hcz8_1
 try clear hcz8_2
 try clear hcz8_3
 try clear hfz10_0
 try clear hfz10_1
 try clear hfz10_2
 try clear hfz10_3
 try clear hfz6_0
 try clear hfz6_1
 try clear hfz6_2
 try clear hfz6_3
 try clear hfz8_0
 try clear hfz8_1
 try clear hfz8_2
 try clear hfz8_3
 obtain ⟨x9_1,x10_1,x11_1,x35_1,rfl,HA,HK1,HO_7,HO_9,HO_10,HO_11,BK611,HB⟩:=hrel
 cases gk with
 |zero=>exact absurd HA.out (by simp [zAG.l0])
 |succ k1=>?_
 have H:=HA.out
 clear HA
 simp only [zAG.l0] at H
 by_cases c11:x35_1<(l0_3.length:Int)
 rotate_left
 ·rw [if_neg c11] at H
  have c11b0:decide (x35_1<(l0_3.length:Int))=false:=decide_eq_false c11
  clear c11
  have c119:=yes_ H
  rw [if_pos c119] at H
  have c119b0:decide (0<(x10_1.length:Int))=true:=decide_eq_true c119
  have c119b1:decide (0<x10_1.length)=true:=decide_eq_true (by omega)
  clear c119
  by_cases c120:(rd x10_1 0)=1
  ·rw [if_pos c120] at H
   have c120b0:((rd x10_1 0) == 1)=true:=beq_iff_eq.mpr c120
   have c120b1:((rd x10_1 0) != 1)=false:=bne_eq_false_iff_eq.mpr c120
   clear c120
   simp only [Option.some.injEq,Prod.mk.injEq] at H
   obtain ⟨rfl,rfl,rfl⟩:=H
   obtain ⟨Ao121,co121,eo121⟩:=Kd.R_slice HO_10.out
   subst eo121
   have p618:0≤(0:Int):=(by omega)
   have q618:0<(x10_1.length:Int):=aD_
   obtain ⟨ad618,e618,hx618_0⟩:=Kd.at_int (Kd.R_reads' HO_10.out).2.2 0 p618 q618
   cases e618
   have qi618:(0<x10_1.length)=True:=eq_true (by omega)
   (try rw [show ((0:Int)).toNat=0 from rfl] at hx618_0)
   (try rw [Addr.add_zero'] at hx618_0)
   replace p618:=eq_true p618
   replace q618:=eq_true q618
   go_wp2
   go_ret3
   exact ⟨_,by first|rfl|(simp [zAL,zAK] <;> rfl)|(simp [*,zAL,zAK] <;> rfl),by refine aR_ ?_;exact Kd.R_mono HO_9.out (fun _ hk=>trivial),aI_ HB.out GE611.out⟩
  rw [if_neg c120] at H
  have c120b0:((rd x10_1 0) == 1)=false:=beq_eq_false_iff_ne.mpr c120
  have c120b1:((rd x10_1 0) != 1)=true:=bne_iff_ne.mpr c120
  simp only [Option.some.injEq,Prod.mk.injEq] at H
  obtain ⟨rfl,rfl,rfl⟩:=H
  obtain ⟨Ao122,co122,eo122⟩:=Kd.R_slice HO_10.out
  subst eo122
  have p618:0≤(0:Int):=(by omega)
  have q618:0<(x10_1.length:Int):=aD_
  obtain ⟨ad618,e618,hx618_0⟩:=Kd.at_int (Kd.R_reads' HO_10.out).2.2 0 p618 q618
  cases e618
  have qi618:(0<x10_1.length)=True:=eq_true (by omega)
  (try rw [show ((0:Int)).toNat=0 from rfl] at hx618_0)
  (try rw [Addr.add_zero'] at hx618_0)
  replace p618:=eq_true p618
  replace q618:=eq_true q618
  obtain ⟨Ao123,co123,eo123⟩:=Kd.R_slice HO_9.out
  subst eo123
  go_wp2
  go_ret3
  exact ⟨_,by first|rfl|(simp [zAL,zAK] <;> rfl)|(simp [*,zAL,zAK] <;> rfl),by first|exact Kd.R_nil _ _ _ _ _|exact Kd.N_nil _ _ _ _ _|exact Kd.V_nil _ _ _ _ _|exact Kd.Q_nil _ _ _ _ _|exact Kd.S_nil _ _ _ _ _,aI_ HB.out GE611.out⟩
 rw [if_pos c11] at H
 have c11b0:decide (x35_1<(l0_3.length:Int))=true:=decide_eq_true c11
 clear c11
 have c12:=yes_ H
 rw [if_pos c12] at H
 have c12b0:decide (0≤x35_1)=true:=decide_eq_true c12
 clear c12
 have c13:=yes_ H
 rw [if_pos c13] at H
 have c13b0:decide (x35_1<(l0_3.length:Int))=true:=decide_eq_true c13
 clear c13
 replace H:=Option.bind_eq_some_iff.mp H
 obtain ⟨⟨t621,t622⟩,A140,H⟩:=H
 replace H:(if t622<0 then (zAG.j1 k1 t614 x9_1 x10_1 x11_1 x35_1 t621 ((zAC l0_3 x35_1).f3) l0_3 (l0_3.length:Int) x35_1 ((zAC l0_3 x35_1).f0) ((zAC l0_3 x35_1).f1) ((zAC l0_3 x35_1).f2) ((zAC l0_3 x35_1).f3) ((zAC l0_3 x35_1).f4) ((zAC l0_3 x35_1).f5)) else (zAG.j1 k1 t614 x9_1 x10_1 x11_1 x35_1 t621 t622 l0_3 (l0_3.length:Int) x35_1 ((zAC l0_3 x35_1).f0) ((zAC l0_3 x35_1).f1) ((zAC l0_3 x35_1).f2) ((zAC l0_3 x35_1).f3) ((zAC l0_3 x35_1).f4) ((zAC l0_3 x35_1).f5)))=some (r1,r2,r3):=H
 have A14:=aK_ A140
 clear A140
 have HC15:=aK_ H
 clear H
 have p619:0≤(x35_1:Int):=aD_
 have q619:x35_1<(l0_3.length:Int):=aD_
 obtain ⟨ad619,A619_4,c619_4,e619,hx619_0,hx619_1,hx619_2,hx619_3,hx619_4,hx619_5,hl619_4,hi619_4⟩:=at_T33 HR0_3.out x35_1 p619 q619
 cases e619
 replace hx619_0:=(HB.out.cell (World.block_lt_of_cell? w _ hx619_0)).trans hx619_0
 replace hx619_1:=(HB.out.cell (World.block_lt_of_cell? w _ hx619_1)).trans hx619_1
 replace hx619_2:=(HB.out.cell (World.block_lt_of_cell? w _ hx619_2)).trans hx619_2
 replace hx619_3:=(HB.out.cell (World.block_lt_of_cell? w _ hx619_3)).trans hx619_3
 replace hx619_4:=(HB.out.cell (World.block_lt_of_cell? w _ hx619_4)).trans hx619_4
 replace hx619_5:=(HB.out.cell (World.block_lt_of_cell? w _ hx619_5)).trans hx619_5
 have HR619_4:=aK_ hi619_4
 have HC619_4:=aK_ hl619_4
 clear hi619_4 hl619_4
 replace p619:=eq_true p619
 replace q619:=eq_true q619
 go_upto_if 47 with (first|((with_reducible refine zAQ (N:=13) rfl ?_);refine zAS ?hg (N:=13) ?hd (cs:=#[.int .i64 0,.int .i64 0,.int .i64 0,.int .i64 0,.slice none 0 0,.int .i64 0]) (t:=33) ?hr ?_;(case hd=>rfl);(case hg=>rfl);(case hr=>first|(go_simp;done)|(go_simp;rfl));intro gb620 hg w16 hbox hb;have n0_:=aK_ (Kd.R_below (aR_ HO_7.out) hb);have n1_:=aK_ (Kd.R_below (aR_ HO_9.out) hb);have n2_:=aK_ (Kd.R_below (aR_ HO_10.out) hb);have n3_:=aK_ (Kd.R_below (aR_ HO_11.out) hb);have n4_:=aK_ (zAN (g:=gb611) (o:=.cells #[.string a0_0,.slice A0_1 l0_1.length c0_1,.int .i64 a0_2,.slice (some ad619) l0_3.length c0_3] 25 (0,0)) (aB_ BK611.out) hb);have n5_:=aK_ (zAH (aI_ HB.out GE611.out) hb);have n6_:=aK_ (hbox);have n7_:=aK_ ((by rw [hg];exact (zAE (aI_ HB.out GE611.out)):w.heap.size≤gb620));have n8_:=aK_ ((by rw [hg];exact (zAE (aI_ HB.out GE611.out)):w.heap.size≤gb620));have n9_:=aK_ ((by rw [hg];exact Nat.ne_of_lt (blk_lt (g:=gb611) (o:=.cells #[.string a0_0,.slice A0_1 l0_1.length c0_1,.int .i64 a0_2,.slice (some ad619) l0_3.length c0_3] 25 (0,0)) (aB_ BK611.out)):gb611≠gb620));have n10_:=aK_ ((by rw [hg];exact Nat.ne_of_gt (blk_lt (g:=gb611) (o:=.cells #[.string a0_0,.slice A0_1 l0_1.length c0_1,.int .i64 a0_2,.slice (some ad619) l0_3.length c0_3] 25 (0,0)) (aB_ BK611.out)):gb620≠gb611));clear HO_7;clear HO_9;clear HO_10;clear HO_11;clear BK611;clear HB;have HO_7:=n0_;have HO_9:=n1_;have HO_10:=n2_;have HO_11:=n3_;have BK611:=n4_;have HB:=n5_;have BK620:=n6_;have GW620:=n7_;have GE620:=n8_;have NB611_620:=n9_;have NB620_611:=n10_;clear n0_ n1_ n2_ n3_ n4_ n5_ n6_ n7_ n8_ n9_ n10_;clear hb hbox hg;have hnb17:=NB620_611.out;have hnc17:=NB611_620.out;have hcz18_0:w16.cell? ⟨gb620,0,none⟩=some (.int .i64 0):=(zAB BK620.out 0).trans rfl;have hcz18_1:w16.cell? ⟨gb620,1,none⟩=some (.int .i64 0):=(zAB BK620.out 1).trans rfl;have hcz18_2:w16.cell? ⟨gb620,2,none⟩=some (.int .i64 0):=(zAB BK620.out 2).trans rfl;have hcz18_3:w16.cell? ⟨gb620,3,none⟩=some (.int .i64 0):=(zAB BK620.out 3).trans rfl;have hcz18_4:w16.cell? ⟨gb620,4,none⟩=some (.slice none 0 0):=(zAB BK620.out 4).trans rfl;have hcz18_5:w16.cell? ⟨gb620,5,none⟩=some (.int .i64 0):=(zAB BK620.out 5).trans rfl;have hfz18_0:=zAA BK620.out 0;have hfz18_1:=zAA BK620.out 1;have hfz18_2:=zAA BK620.out 2;have hfz18_3:=zAA BK620.out 3;have hfz18_4:=zAA BK620.out 4;have hfz18_5:=zAA BK620.out 5)|((with_reducible refine gate_callee (f:=53) rfl ?_);refine goesL_ (some 43) rfl rfl Tryd.func53 (by kernel_rfl) rfl #[.int .i64 ((zAC l0_3 x35_1).f0)] rfl aM_ ?_;(with_reducible refine (units_rules.calls ((zAC l0_3 x35_1).f0) t621 t622 _ A14.out).mono ?_);rintro e w19 ⟨rfl,hb⟩;refine ⟨_,rfl,?_⟩;have n0_:=aK_ (Kd.R_below (by refine aR_ ?_;exact (Kd.R_mono (Kd.R_far (p:=⟨gb620,5,none⟩) (Kd.R_far (p:=⟨gb620,4,none⟩) (Kd.R_far (p:=⟨gb620,3,none⟩) (Kd.R_far (p:=⟨gb620,2,none⟩) (Kd.R_far (p:=⟨gb620,1,none⟩) (Kd.R_far (p:=⟨gb620,0,none⟩) (Kd.R_types HO_7.out BK620.out (by decide)) (fun _ hk=>hk.2) (.int .i64 ((zAC l0_3 x35_1).f0))) (fun _ hk=>hk.2) (.int .i64 ((zAC l0_3 x35_1).f1))) (fun _ hk=>hk.2) (.int .i64 ((zAC l0_3 x35_1).f2))) (fun _ hk=>hk.2) (.int .i64 ((zAC l0_3 x35_1).f3))) (fun _ hk=>hk.2) (.slice A619_4 ((zAC l0_3 x35_1).f4).length c619_4)) (fun _ hk=>hk.2) (.int .i64 ((zAC l0_3 x35_1).f5))) (fun _ h_=>h_.1))) hb);have n1_:=aK_ (Kd.R_below (by refine aR_ ?_;exact (Kd.R_mono (Kd.R_far (p:=⟨gb620,5,none⟩) (Kd.R_far (p:=⟨gb620,4,none⟩) (Kd.R_far (p:=⟨gb620,3,none⟩) (Kd.R_far (p:=⟨gb620,2,none⟩) (Kd.R_far (p:=⟨gb620,1,none⟩) (Kd.R_far (p:=⟨gb620,0,none⟩) (Kd.R_types HO_9.out BK620.out (by decide)) (fun _ hk=>hk.2) (.int .i64 ((zAC l0_3 x35_1).f0))) (fun _ hk=>hk.2) (.int .i64 ((zAC l0_3 x35_1).f1))) (fun _ hk=>hk.2) (.int .i64 ((zAC l0_3 x35_1).f2))) (fun _ hk=>hk.2) (.int .i64 ((zAC l0_3 x35_1).f3))) (fun _ hk=>hk.2) (.slice A619_4 ((zAC l0_3 x35_1).f4).length c619_4)) (fun _ hk=>hk.2) (.int .i64 ((zAC l0_3 x35_1).f5))) (fun _ h_=>h_.1))) hb);have n2_:=aK_ (Kd.R_below (by refine aR_ ?_;exact (Kd.R_mono (Kd.R_far (p:=⟨gb620,5,none⟩) (Kd.R_far (p:=⟨gb620,4,none⟩) (Kd.R_far (p:=⟨gb620,3,none⟩) (Kd.R_far (p:=⟨gb620,2,none⟩) (Kd.R_far (p:=⟨gb620,1,none⟩) (Kd.R_far (p:=⟨gb620,0,none⟩) (Kd.R_types HO_10.out BK620.out (by decide)) (fun _ hk=>hk.2) (.int .i64 ((zAC l0_3 x35_1).f0))) (fun _ hk=>hk.2) (.int .i64 ((zAC l0_3 x35_1).f1))) (fun _ hk=>hk.2) (.int .i64 ((zAC l0_3 x35_1).f2))) (fun _ hk=>hk.2) (.int .i64 ((zAC l0_3 x35_1).f3))) (fun _ hk=>hk.2) (.slice A619_4 ((zAC l0_3 x35_1).f4).length c619_4)) (fun _ hk=>hk.2) (.int .i64 ((zAC l0_3 x35_1).f5))) (fun _ h_=>h_.1))) hb);have n3_:=aK_ (Kd.R_below (by refine aR_ ?_;exact (Kd.R_mono (Kd.R_far (p:=⟨gb620,5,none⟩) (Kd.R_far (p:=⟨gb620,4,none⟩) (Kd.R_far (p:=⟨gb620,3,none⟩) (Kd.R_far (p:=⟨gb620,2,none⟩) (Kd.R_far (p:=⟨gb620,1,none⟩) (Kd.R_far (p:=⟨gb620,0,none⟩) (Kd.R_types HO_11.out BK620.out (by decide)) (fun _ hk=>hk.2) (.int .i64 ((zAC l0_3 x35_1).f0))) (fun _ hk=>hk.2) (.int .i64 ((zAC l0_3 x35_1).f1))) (fun _ hk=>hk.2) (.int .i64 ((zAC l0_3 x35_1).f2))) (fun _ hk=>hk.2) (.int .i64 ((zAC l0_3 x35_1).f3))) (fun _ hk=>hk.2) (.slice A619_4 ((zAC l0_3 x35_1).f4).length c619_4)) (fun _ hk=>hk.2) (.int .i64 ((zAC l0_3 x35_1).f5))) (fun _ h_=>h_.1))) hb);have n4_:=aK_ (zAN (g:=gb611) (o:=.cells #[.string a0_0,.slice A0_1 l0_1.length c0_1,.int .i64 a0_2,.slice (some ad619) l0_3.length c0_3] 25 (0,0)) (by refine aB_ ?_;refine blk_far ?_ NB611_620.out _;refine aB_ ?_;refine blk_far ?_ NB611_620.out _;refine aB_ ?_;refine blk_far ?_ NB611_620.out _;refine aB_ ?_;refine blk_far ?_ NB611_620.out _;refine aB_ ?_;refine blk_far ?_ NB611_620.out _;refine aB_ ?_;refine blk_far ?_ NB611_620.out _;refine aB_ ?_;exact BK611.out) hb);have n5_:=aK_ (zAN (g:=gb620) (o:=.cells #[.int .i64 ((zAC l0_3 x35_1).f0),.int .i64 ((zAC l0_3 x35_1).f1),.int .i64 ((zAC l0_3 x35_1).f2),.int .i64 ((zAC l0_3 x35_1).f3),.slice A619_4 ((zAC l0_3 x35_1).f4).length c619_4,.int .i64 ((zAC l0_3 x35_1).f5)] 33 (0,0)) (by refine aB_ ?_;refine blk_put (cs:=#[.int .i64 ((zAC l0_3 x35_1).f0),.int .i64 ((zAC l0_3 x35_1).f1),.int .i64 ((zAC l0_3 x35_1).f2),.int .i64 ((zAC l0_3 x35_1).f3),.slice A619_4 ((zAC l0_3 x35_1).f4).length c619_4,.int .i64 0]) ?_ 5 _ rfl;refine aB_ ?_;refine blk_put (cs:=#[.int .i64 ((zAC l0_3 x35_1).f0),.int .i64 ((zAC l0_3 x35_1).f1),.int .i64 ((zAC l0_3 x35_1).f2),.int .i64 ((zAC l0_3 x35_1).f3),.slice none 0 0,.int .i64 0]) ?_ 4 _ rfl;refine aB_ ?_;refine blk_put (cs:=#[.int .i64 ((zAC l0_3 x35_1).f0),.int .i64 ((zAC l0_3 x35_1).f1),.int .i64 ((zAC l0_3 x35_1).f2),.int .i64 0,.slice none 0 0,.int .i64 0]) ?_ 3 _ rfl;refine aB_ ?_;refine blk_put (cs:=#[.int .i64 ((zAC l0_3 x35_1).f0),.int .i64 ((zAC l0_3 x35_1).f1),.int .i64 0,.int .i64 0,.slice none 0 0,.int .i64 0]) ?_ 2 _ rfl;refine aB_ ?_;refine blk_put (cs:=#[.int .i64 ((zAC l0_3 x35_1).f0),.int .i64 0,.int .i64 0,.int .i64 0,.slice none 0 0,.int .i64 0]) ?_ 1 _ rfl;refine aB_ ?_;refine blk_put (cs:=#[.int .i64 0,.int .i64 0,.int .i64 0,.int .i64 0,.slice none 0 0,.int .i64 0]) ?_ 0 _ rfl;refine aB_ ?_;exact BK620.out) hb);have n6_:=aK_ (zAH (aJ_ HB.out GE611.out GE620.out) hb);clear HO_7;clear HO_9;clear HO_10;clear HO_11;clear BK611;clear BK620;clear HB;have HO_7:=n0_;have HO_9:=n1_;have HO_10:=n2_;have HO_11:=n3_;have BK611:=n4_;have BK620:=n5_;have HB:=n6_;clear n0_ n1_ n2_ n3_ n4_ n5_ n6_;(try clear hb);(try clear hb2);(try clear hk);(try clear hi)))
 (try simp only [Act.put,List.setIfInBounds_toArray,List.set_cons_zero,List.set_cons_succ])
 go_cut [15] (fun v15 wc=>∃ (kq:Nat) (x15_14:Int),v15 = .int .i64 x15_14∧zAO (zAG.j1 kq t614 x9_1 x10_1 x11_1 x35_1 t621 x15_14 l0_3 (l0_3.length:Int) x35_1 ((zAC l0_3 x35_1).f0) ((zAC l0_3 x35_1).f1) ((zAC l0_3 x35_1).f2) ((zAC l0_3 x35_1).f3) ((zAC l0_3 x35_1).f4) ((zAC l0_3 x35_1).f5)=some (r1,r2,r3))∧zAO (kq≤k1)∧zAO (Kd.R Kd.bool 4 wc w.heap.size (fun k_=>some k_≠(u11:Value).ownBlock) v615 t614)∧zAO (Kd.R (Kd.int .i64) 3 wc w.heap.size (fun k_=>some k_≠(u10:Value).ownBlock) u9 x9_1)∧zAO (Kd.R (Kd.int .i64) 3 wc w.heap.size (fun k_=>some k_≠(u9:Value).ownBlock) u10 x10_1)∧zAO (Kd.R Kd.bool 4 wc w.heap.size (fun k_=>some k_≠(v615:Value).ownBlock) u11 x11_1)∧zAO (wc.heap[gb611]?=some (.cells #[.string a0_0,(.slice A0_1 l0_1.length c0_1),.int .i64 a0_2,(.slice (some ad619) l0_3.length c0_3)] 25 (0,0)))∧zAO (wc.heap[gb620]?=some (.cells #[.int .i64 ((zAC l0_3 x35_1).f0),.int .i64 ((zAC l0_3 x35_1).f1),.int .i64 ((zAC l0_3 x35_1).f2),.int .i64 ((zAC l0_3 x35_1).f3),(.slice A619_4 ((zAC l0_3 x35_1).f4).length c619_4),.int .i64 ((zAC l0_3 x35_1).f5)] 33 (0,0)))∧zAO (Below w.heap.size w wc))
 case first =>
  have H:=HC15.out
  clear HC15
  by_cases c20:t622<0
  rotate_left
  ·rw [if_neg c20] at H
   have c20b0:decide (t622<0)=false:=decide_eq_false c20
   clear c20
   (first|rw [c20b0]|(simp only [i64_w,i32_w];rw [c20b0])|skip)
   have H':=aK_ H
   clear H
   go_wp2
   go_meet
   case rel=>exact ⟨_,(t622),aS2_,H',⟨by have:=HK1.out;first|omega|exact Nat.le_refl _⟩,⟨aR_ HO_7.out⟩,⟨aR_ HO_9.out⟩,⟨aR_ HO_10.out⟩,⟨aR_ HO_11.out⟩,⟨aB_ BK611.out⟩,⟨aB_ BK620.out⟩,⟨aJ_ HB.out GE611.out GE620.out⟩⟩
  rw [if_pos c20] at H
  have c20b0:decide (t622<0)=true:=decide_eq_true c20
  clear c20
  (first|rw [c20b0]|(simp only [i64_w,i32_w];rw [c20b0])|skip)
  have H':=aK_ H
  clear H
  have hnb21:=NB620_611.out
  have hnc21:=NB611_620.out
  have hcz22_0:w19.cell? ⟨gb620,0,none⟩=some (.int .i64 ((zAC l0_3 x35_1).f0)):=(zAB BK620.out 0).trans rfl
  have hcz22_1:w19.cell? ⟨gb620,1,none⟩=some (.int .i64 ((zAC l0_3 x35_1).f1)):=(zAB BK620.out 1).trans rfl
  have hcz22_2:w19.cell? ⟨gb620,2,none⟩=some (.int .i64 ((zAC l0_3 x35_1).f2)):=(zAB BK620.out 2).trans rfl
  have hcz22_3:w19.cell? ⟨gb620,3,none⟩=some (.int .i64 ((zAC l0_3 x35_1).f3)):=(zAB BK620.out 3).trans rfl
  have hcz22_4:w19.cell? ⟨gb620,4,none⟩=some (.slice A619_4 ((zAC l0_3 x35_1).f4).length c619_4):=(zAB BK620.out 4).trans rfl
  have hcz22_5:w19.cell? ⟨gb620,5,none⟩=some (.int .i64 ((zAC l0_3 x35_1).f5)):=(zAB BK620.out 5).trans rfl
  have hfz22_0:=zAA BK620.out 0
  have hfz22_1:=zAA BK620.out 1
  have hfz22_2:=zAA BK620.out 2
  have hfz22_3:=zAA BK620.out 3
  have hfz22_4:=zAA BK620.out 4
  have hfz22_5:=zAA BK620.out 5
  go_wp2
  go_meet
  case rel=>exact ⟨_,((zAC l0_3 x35_1).f3),aS2_,H',⟨by have:=HK1.out;first|omega|exact Nat.le_refl _⟩,⟨aR_ HO_7.out⟩,⟨aR_ HO_9.out⟩,⟨aR_ HO_10.out⟩,⟨aR_ HO_11.out⟩,⟨aB_ BK611.out⟩,⟨aB_ BK620.out⟩,⟨aJ_ HB.out GE611.out GE620.out⟩⟩
 clear HC15
 try clear c1
 try clear c2
 try clear p2
 try clear c3
 try clear c3b0
 try clear c3b1
 try clear c5
 try clear c6
 try clear p6
 try clear q6
 try clear hx6
 try clear c11
 try clear c11b0
 try clear c12
 try clear c12b0
 try clear c13
 try clear c13b0
 try clear c16
 try clear c17
 try clear c20
 try clear c20b0
 try clear c21
 try clear hcz10_0
 try clear hcz10_1
 try clear hcz10_2
 try clear hcz10_3
 try clear hcz18_0
 try clear hcz18_1
 try clear hcz18_2
 try clear hcz18_3
 try clear hcz18_4
 try clear hcz18_5
 try clear hcz22_0
 try clear hcz22_1
 try clear hcz22_2
 try clear hcz22_3
 try clear hcz22_4
 try clear hcz22_5
 try clear hcz6_0
 try clear hcz6_1
 try clear hcz6_2
 try clear hcz6_3
 try clear hcz8_0
 try clear hcz8_1
 try clear hcz8_2
 try clear hcz8_3
 try clear hfz10_0
 try clear hfz10_1
 try clear hfz10_2
 try clear hfz10_3
 try clear hfz18_0
 try clear hfz18_1
 try clear hfz18_2
 try clear hfz18_3
 try clear hfz18_4
 try clear hfz18_5
 try clear hfz22_0
 try clear hfz22_1
 try clear hfz22_2
 try clear hfz22_3
 try clear hfz22_4
 try clear hfz22_5
 try clear hfz6_0
 try clear hfz6_1
 try clear hfz6_2
 try clear hfz6_3
 try clear hfz8_0
 try clear hfz8_1
 try clear hfz8_2
 try clear hfz8_3
 try clear hx619_0
 try clear hx619_1
 try clear hx619_2
 try clear hx619_3
 try clear hx619_4
 try clear hx619_5
 try clear p2
 try clear p619
 try clear q619
 obtain ⟨kq,x15_14,rfl,HA,HJ14,HO_7,HO_9,HO_10,HO_11,BK611,BK620,HB⟩:=hcut
 cases kq with
 |zero=>exact absurd HA.out (by simp [zAG.j1])
 |succ kj14=>?_
 have H:=HA.out
 clear HA
 simp only [zAG.j1] at H
 obtain ⟨ji23,hji23⟩:∃ j_:Int,(wrap64 ((x10_1.length:Int) - x15_14))=j_:=⟨_,rfl⟩
 replace H:(if 0≤(ji23) then (if (ji23)≤(x10_1.length:Int) then (if (ji23)≤(x11_1.length:Int) then ((units_dyn.f kj14 t621 ((zAC l0_3 x35_1).f0) ((zAC l0_3 x35_1).f1) ((zAC l0_3 x35_1).f2) ((zAC l0_3 x35_1).f3) ((zAC l0_3 x35_1).f4) ((zAC l0_3 x35_1).f5) (x10_1.drop ((ji23):Int).toNat) (x11_1.drop ((ji23):Int).toNat)).bind fun t631=>(if t631=(-1) then (some (([]:List Int),x35_1,80)) else (if ((zAC l0_3 x35_1).f0)=8 then (if (ji23)<(x11_1.length:Int) then (if (rdOf false x11_1 (ji23)=true) then (if x9_1.length<17592186044416 then ((some (x10_1.take ((ji23):Int).toNat:List Int)).bind fun y636=>(if y636.length<17592186044416 then ((some (x11_1.take ((ji23):Int).toNat:List Bool)).bind fun y642=>(if 0≤x35_1 then (if x35_1<(t614.length:Int) then (if y642.length<140737488355328 then (zAG.l0 kj14 t614 (x9_1 ++ [t631]) (y636 ++ [t631]) (y642 ++ [rdOf false t614 x35_1]) l0_3 (l0_3.length:Int) (wrap64 (x35_1+1))) else (none)) else (none)) else (none))) else (none))) else (none)) else (if 0≤(wrap64 ((ji23)+1)) then (if (wrap64 ((ji23)+1))<(x11_1.length:Int) then (if (rdOf false x11_1 (wrap64 ((ji23)+1))=true) then (if x9_1.length<17592186044416 then ((some (x10_1.take ((ji23):Int).toNat:List Int)).bind fun y653=>(if y653.length<17592186044416 then ((some (x11_1.take ((ji23):Int).toNat:List Bool)).bind fun y659=>(if 0≤x35_1 then (if x35_1<(t614.length:Int) then (if y659.length<140737488355328 then (zAG.l0 kj14 t614 (x9_1 ++ [t631]) (y653 ++ [t631]) (y659 ++ [rdOf false t614 x35_1]) l0_3 (l0_3.length:Int) (wrap64 (x35_1+1))) else (none)) else (none)) else (none))) else (none))) else (none)) else (some (([]:List Int),x35_1,81))) else (none)) else (none))) else (none)) else (if x9_1.length<17592186044416 then ((some (x10_1.take ((ji23):Int).toNat:List Int)).bind fun y669=>(if y669.length<17592186044416 then ((some (x11_1.take ((ji23):Int).toNat:List Bool)).bind fun y675=>(if 0≤x35_1 then (if x35_1<(t614.length:Int) then (if y675.length<140737488355328 then (zAG.l0 kj14 t614 (x9_1 ++ [t631]) (y669 ++ [t631]) (y675 ++ [rdOf false t614 x35_1]) l0_3 (l0_3.length:Int) (wrap64 (x35_1+1))) else (none)) else (none)) else (none))) else (none))) else (none))))) else (none)) else (none)) else (none))=some (r1,r2,r3):=by first|(rw [hji23] at H;exact H)|(simp only [hji23] at H ⊢;exact H)
 have hji23w:(IntKind.i64.wrap ((x10_1.length:Int) - x15_14))=ji23:=(i64_w _).trans hji23
 have c24:=yes_ H
 rw [if_pos c24] at H
 have c24b0:=eq_true c24
 have c24b1:decide (0≤(ji23))=true:=decide_eq_true c24
 clear c24
 have c25:=yes_ H
 rw [if_pos c25] at H
 have c25b0:=eq_true c25
 have c25b1:decide ((ji23)≤(x10_1.length:Int))=true:=decide_eq_true c25
 clear c25
 obtain ⟨y623,hy623⟩:∃ y_:List Int,y_=(x10_1.drop ((ji23):Int).toNat):=⟨_,rfl⟩
 replace H:(if (ji23)≤(x11_1.length:Int) then ((units_dyn.f kj14 t621 ((zAC l0_3 x35_1).f0) ((zAC l0_3 x35_1).f1) ((zAC l0_3 x35_1).f2) ((zAC l0_3 x35_1).f3) ((zAC l0_3 x35_1).f4) ((zAC l0_3 x35_1).f5) y623 (x11_1.drop ((ji23):Int).toNat)).bind fun t631=>(if t631=(-1) then (some (([]:List Int),x35_1,80)) else (if ((zAC l0_3 x35_1).f0)=8 then (if (ji23)<(x11_1.length:Int) then (if (rdOf false x11_1 (ji23)=true) then (if x9_1.length<17592186044416 then ((some (x10_1.take ((ji23):Int).toNat:List Int)).bind fun y636=>(if y636.length<17592186044416 then ((some (x11_1.take ((ji23):Int).toNat:List Bool)).bind fun y642=>(if 0≤x35_1 then (if x35_1<(t614.length:Int) then (if y642.length<140737488355328 then (zAG.l0 kj14 t614 (x9_1 ++ [t631]) (y636 ++ [t631]) (y642 ++ [rdOf false t614 x35_1]) l0_3 (l0_3.length:Int) (wrap64 (x35_1+1))) else (none)) else (none)) else (none))) else (none))) else (none)) else (if 0≤(wrap64 ((ji23)+1)) then (if (wrap64 ((ji23)+1))<(x11_1.length:Int) then (if (rdOf false x11_1 (wrap64 ((ji23)+1))=true) then (if x9_1.length<17592186044416 then ((some (x10_1.take ((ji23):Int).toNat:List Int)).bind fun y653=>(if y653.length<17592186044416 then ((some (x11_1.take ((ji23):Int).toNat:List Bool)).bind fun y659=>(if 0≤x35_1 then (if x35_1<(t614.length:Int) then (if y659.length<140737488355328 then (zAG.l0 kj14 t614 (x9_1 ++ [t631]) (y653 ++ [t631]) (y659 ++ [rdOf false t614 x35_1]) l0_3 (l0_3.length:Int) (wrap64 (x35_1+1))) else (none)) else (none)) else (none))) else (none))) else (none)) else (some (([]:List Int),x35_1,81))) else (none)) else (none))) else (none)) else (if x9_1.length<17592186044416 then ((some (x10_1.take ((ji23):Int).toNat:List Int)).bind fun y669=>(if y669.length<17592186044416 then ((some (x11_1.take ((ji23):Int).toNat:List Bool)).bind fun y675=>(if 0≤x35_1 then (if x35_1<(t614.length:Int) then (if y675.length<140737488355328 then (zAG.l0 kj14 t614 (x9_1 ++ [t631]) (y669 ++ [t631]) (y675 ++ [rdOf false t614 x35_1]) l0_3 (l0_3.length:Int) (wrap64 (x35_1+1))) else (none)) else (none)) else (none))) else (none))) else (none))))) else (none))=some (r1,r2,r3):=by first|(rw [hy623];with_reducible exact H)|(have H2_:=(Option.bind_some _ _).symm.trans H;rw [hy623];with_reducible exact H2_)|(have H2_:=(Option.bind_some _ _).symm.trans H;with_reducible exact H2_)|with_reducible exact H|(rw [hy623];exact H)|exact H
 have Ny623:=aK_ hy623
 clear hy623
 have c26b0:=eq_true (aD_:0≤(ji23))
 have c27:=yes_ H
 rw [if_pos c27] at H
 have c27b0:=eq_true c27
 have c27b1:decide ((ji23)≤(x11_1.length:Int))=true:=decide_eq_true c27
 clear c27
 obtain ⟨y627,hy627⟩:∃ y_:List Bool,y_=(x11_1.drop ((ji23):Int).toNat):=⟨_,rfl⟩
 replace H:((units_dyn.f kj14 t621 ((zAC l0_3 x35_1).f0) ((zAC l0_3 x35_1).f1) ((zAC l0_3 x35_1).f2) ((zAC l0_3 x35_1).f3) ((zAC l0_3 x35_1).f4) ((zAC l0_3 x35_1).f5) y623 y627).bind fun t631=>(if t631=(-1) then (some (([]:List Int),x35_1,80)) else (if ((zAC l0_3 x35_1).f0)=8 then (if (ji23)<(x11_1.length:Int) then (if (rdOf false x11_1 (ji23)=true) then (if x9_1.length<17592186044416 then ((some (x10_1.take ((ji23):Int).toNat:List Int)).bind fun y636=>(if y636.length<17592186044416 then ((some (x11_1.take ((ji23):Int).toNat:List Bool)).bind fun y642=>(if 0≤x35_1 then (if x35_1<(t614.length:Int) then (if y642.length<140737488355328 then (zAG.l0 kj14 t614 (x9_1 ++ [t631]) (y636 ++ [t631]) (y642 ++ [rdOf false t614 x35_1]) l0_3 (l0_3.length:Int) (wrap64 (x35_1+1))) else (none)) else (none)) else (none))) else (none))) else (none)) else (if 0≤(wrap64 ((ji23)+1)) then (if (wrap64 ((ji23)+1))<(x11_1.length:Int) then (if (rdOf false x11_1 (wrap64 ((ji23)+1))=true) then (if x9_1.length<17592186044416 then ((some (x10_1.take ((ji23):Int).toNat:List Int)).bind fun y653=>(if y653.length<17592186044416 then ((some (x11_1.take ((ji23):Int).toNat:List Bool)).bind fun y659=>(if 0≤x35_1 then (if x35_1<(t614.length:Int) then (if y659.length<140737488355328 then (zAG.l0 kj14 t614 (x9_1 ++ [t631]) (y653 ++ [t631]) (y659 ++ [rdOf false t614 x35_1]) l0_3 (l0_3.length:Int) (wrap64 (x35_1+1))) else (none)) else (none)) else (none))) else (none))) else (none)) else (some (([]:List Int),x35_1,81))) else (none)) else (none))) else (none)) else (if x9_1.length<17592186044416 then ((some (x10_1.take ((ji23):Int).toNat:List Int)).bind fun y669=>(if y669.length<17592186044416 then ((some (x11_1.take ((ji23):Int).toNat:List Bool)).bind fun y675=>(if 0≤x35_1 then (if x35_1<(t614.length:Int) then (if y675.length<140737488355328 then (zAG.l0 kj14 t614 (x9_1 ++ [t631]) (y669 ++ [t631]) (y675 ++ [rdOf false t614 x35_1]) l0_3 (l0_3.length:Int) (wrap64 (x35_1+1))) else (none)) else (none)) else (none))) else (none))) else (none)))))=some (r1,r2,r3):=by first|(rw [hy627];with_reducible exact H)|(have H2_:=(Option.bind_some _ _).symm.trans H;rw [hy627];with_reducible exact H2_)|(have H2_:=(Option.bind_some _ _).symm.trans H;with_reducible exact H2_)|with_reducible exact H|(rw [hy627];exact H)|exact H
 have Ny627:=aK_ hy627
 clear hy627
 replace H:=Option.bind_eq_some_iff.mp H
 obtain ⟨t631,A280,H⟩:=H
 replace H:(if t631=(-1) then (some (([]:List Int),x35_1,80)) else (if ((zAC l0_3 x35_1).f0)=8 then (if (ji23)<(x11_1.length:Int) then (if (rdOf false x11_1 (ji23)=true) then (if x9_1.length<17592186044416 then ((some (x10_1.take ((ji23):Int).toNat:List Int)).bind fun y636=>(if y636.length<17592186044416 then ((some (x11_1.take ((ji23):Int).toNat:List Bool)).bind fun y642=>(if 0≤x35_1 then (if x35_1<(t614.length:Int) then (if y642.length<140737488355328 then (zAG.l0 kj14 t614 (x9_1 ++ [t631]) (y636 ++ [t631]) (y642 ++ [rdOf false t614 x35_1]) l0_3 (l0_3.length:Int) (wrap64 (x35_1+1))) else (none)) else (none)) else (none))) else (none))) else (none)) else (if 0≤(wrap64 ((ji23)+1)) then (if (wrap64 ((ji23)+1))<(x11_1.length:Int) then (if (rdOf false x11_1 (wrap64 ((ji23)+1))=true) then (if x9_1.length<17592186044416 then ((some (x10_1.take ((ji23):Int).toNat:List Int)).bind fun y653=>(if y653.length<17592186044416 then ((some (x11_1.take ((ji23):Int).toNat:List Bool)).bind fun y659=>(if 0≤x35_1 then (if x35_1<(t614.length:Int) then (if y659.length<140737488355328 then (zAG.l0 kj14 t614 (x9_1 ++ [t631]) (y653 ++ [t631]) (y659 ++ [rdOf false t614 x35_1]) l0_3 (l0_3.length:Int) (wrap64 (x35_1+1))) else (none)) else (none)) else (none))) else (none))) else (none)) else (some (([]:List Int),x35_1,81))) else (none)) else (none))) else (none)) else (if x9_1.length<17592186044416 then ((some (x10_1.take ((ji23):Int).toNat:List Int)).bind fun y669=>(if y669.length<17592186044416 then ((some (x11_1.take ((ji23):Int).toNat:List Bool)).bind fun y675=>(if 0≤x35_1 then (if x35_1<(t614.length:Int) then (if y675.length<140737488355328 then (zAG.l0 kj14 t614 (x9_1 ++ [t631]) (y669 ++ [t631]) (y675 ++ [rdOf false t614 x35_1]) l0_3 (l0_3.length:Int) (wrap64 (x35_1+1))) else (none)) else (none)) else (none))) else (none))) else (none))))=some (r1,r2,r3):=H
 have A28:=aK_ A280
 clear A280
 by_cases c29:t631=(-1)
 ·rw [if_pos c29] at H
  have c29b0:(t631 == (-1))=true:=beq_iff_eq.mpr c29
  have c29b1:(t631 != (-1))=false:=bne_eq_false_iff_eq.mpr c29
  clear c29
  simp only [Option.some.injEq,Prod.mk.injEq] at H
  obtain ⟨rfl,rfl,rfl⟩:=H
  obtain ⟨Ao30,co30,eo30⟩:=Kd.R_slice HO_10.out
  subst eo30
  try go_wp2
  have n0_:=aK_ (Kd.R_drew HO_7.out)
  have n1_:=aK_ (Kd.R_drew HO_9.out)
  have n2_:=aK_ (Kd.R_drew HO_10.out)
  have n3_:=aK_ (Kd.R_drew HO_11.out)
  have n4_:=aK_ (blk_drew BK611.out)
  have n5_:=aK_ (blk_drew BK620.out)
  have n6_:=aK_ (below_drew1 HB.out)
  clear HO_7
  clear HO_9
  clear HO_10
  clear HO_11
  clear BK611
  clear BK620
  clear HB
  have HO_7:=n0_
  have HO_9:=n1_
  have HO_10:=n2_
  have HO_11:=n3_
  have BK611:=n4_
  have BK620:=n5_
  have HB:=n6_
  clear n0_ n1_ n2_ n3_ n4_ n5_ n6_
  have q32:((ji23):Int)≤((x10_1.length:Int):Int):=aD_
  obtain ⟨i032,hi032,_,hsz32,_⟩:=info_parts info3
  have hroom32:x10_1.length≤co30:=(Kd.R_reads' HO_10.out).2.1
  have hC32:Kd.C (Kd.int .i64) _ Ao30 x10_1.length x10_1:=(Kd.R_reads' HO_10.out).2.2
  have q032:(0:Int)≤((ji23):Int):=aD_
  have hcut32:=cut_from (P:=Tryd.prog) 36 3 .i64 Tryd.underlying36 hi032 1 hsz32 Ao30 x10_1.length co30 (ji23) q032 q32
  have hr32:=Kd.C_drop (m:=((ji23):Int).toNat) (c:=co30) hC32 (by omega) hroom32
  obtain ⟨A32,hA32⟩:∃ A1,A1=(if co30=((ji23):Int).toNat then Ao30 else (Ao30:Option Addr).map (·.add (((ji23):Int).toNat * 1))):=⟨_,rfl⟩
  obtain ⟨c32,hc32⟩:∃ c1,c1=co30 - ((ji23):Int).toNat:=⟨_,rfl⟩
  have hy32:y623.length=x10_1.length - ((ji23):Int).toNat:=(by rw [Ny623.out,List.length_drop] <;> omega)
  rw [show (x10_1).drop ((ji23):Int).toNat=y623 from Ny623.out.symm] at hr32
  replace hr32:Kd.C (Kd.int .i64) _ A32 y623.length y623:=(by rw [hA32];exact hr32)
  rw [← hy32,← hA32,← hc32] at hcut32
  have HR626:=aK_ hr32
  have HC626:=aK_ (show y623.length≤c32 from by rw [hy32,hc32];exact Nat.sub_le_sub_right hroom32 _)
  clear hr32 hC32 hroom32 hi032 hsz32 hc32
  have KY32:=aK_ hy32
  have KA32:=aK_ hA32
  clear hy32 hA32
  have KL32:=aK_ (show ((ji23):Int).toNat≤x10_1.length from by omega)
  replace q32:=eq_true q32
  obtain ⟨Ao34,co34,eo34⟩:=Kd.R_slice HO_11.out
  (first|subst eo34|(injection eo34 with f1_ f2_ f3_;have f4_:=f1_.symm;have f5_:=f3_.symm;clear f1_ f2_ f3_;subst f4_;subst f5_))
  have q33:((ji23):Int)≤((x11_1.length:Int):Int):=aD_
  obtain ⟨i033,hi033,_,hsz33,_⟩:=info_parts info4
  have hroom33:x11_1.length≤co34:=(Kd.R_reads' HO_11.out).2.1
  have hC33:Kd.C Kd.bool _ Ao34 x11_1.length x11_1:=(Kd.R_reads' HO_11.out).2.2
  have q033:(0:Int)≤((ji23):Int):=aD_
  have hcut33:=cut_from (P:=Tryd.prog) 49 4 .i64 Tryd.underlying49 hi033 1 hsz33 Ao34 x11_1.length co34 (ji23) q033 q33
  have hr33:=Kd.C_drop (m:=((ji23):Int).toNat) (c:=co34) hC33 (by omega) hroom33
  obtain ⟨A33,hA33⟩:∃ A1,A1=(if co34=((ji23):Int).toNat then Ao34 else (Ao34:Option Addr).map (·.add (((ji23):Int).toNat * 1))):=⟨_,rfl⟩
  obtain ⟨c33,hc33⟩:∃ c1,c1=co34 - ((ji23):Int).toNat:=⟨_,rfl⟩
  have hy33:y627.length=x11_1.length - ((ji23):Int).toNat:=(by rw [Ny627.out,List.length_drop] <;> omega)
  rw [show (x11_1).drop ((ji23):Int).toNat=y627 from Ny627.out.symm] at hr33
  replace hr33:Kd.C Kd.bool _ A33 y627.length y627:=(by rw [hA33];exact hr33)
  rw [← hy33,← hA33,← hc33] at hcut33
  have HR630:=aK_ hr33
  have HC630:=aK_ (show y627.length≤c33 from by rw [hy33,hc33];exact Nat.sub_le_sub_right hroom33 _)
  clear hr33 hC33 hroom33 hi033 hsz33 hc33
  have KY33:=aK_ hy33
  have KA33:=aK_ hA33
  clear hy33 hA33
  have KL33:=aK_ (show ((ji23):Int).toNat≤x11_1.length from by omega)
  replace q33:=eq_true q33
  refine start_ (n:=11) (S:=fun w'=>w'.cell? ⟨gb620,0,none⟩=some (.int .i64 ((zAC l0_3 x35_1).f0))∧w'.cell? ⟨gb620,1,none⟩=some (.int .i64 ((zAC l0_3 x35_1).f1))∧w'.cell? ⟨gb620,2,none⟩=some (.int .i64 ((zAC l0_3 x35_1).f2))∧w'.cell? ⟨gb620,3,none⟩=some (.int .i64 ((zAC l0_3 x35_1).f3))∧w'.cell? ⟨gb620,4,none⟩=some (.slice A619_4 ((zAC l0_3 x35_1).f4).length c619_4)∧w'.cell? ⟨gb620,5,none⟩=some (.int .i64 ((zAC l0_3 x35_1).f5))) (ds:=[]) #[false,false,false,false,false,false,false,false,false,false,false] (by kernel_rfl) rfl rfl ⟨(zAB BK620.out 0).trans rfl,(zAB BK620.out 1).trans rfl,(zAB BK620.out 2).trans rfl,(zAB BK620.out 3).trans rfl,(zAB BK620.out 4).trans rfl,(zAB BK620.out 5).trans rfl⟩ (fun hHeld=>?_);refine with_tabW zAG.tab14 zAG.bits14 (fun HT_ HW_=>?_)
  generalize wc.drew=w31 at HO_7 HO_9 HO_10 HO_11 BK611 BK620 HB HR626 HR630 hHeld ⊢
  refine pure_ (i:=0) (N:=some 54) (v:=?_) (a':=?_) #[true,false,false,false,false,false,false,false,false,false,false] rfl rfl (any_of HT_.out (by kernel_rfl)) (fun _ _ _ h=>h) (Or.inl ⟨by rfl,?_⟩) ?_ ?_
  rotate_left
  ·intro w'
   go_simp
   with_reducible rfl
  rotate_left
  ·simp only [Act.put,List.setIfInBounds_toArray,List.set_cons_zero,List.set_cons_succ,i64_w,i32_w]
   rfl
  refine pure_ (i:=2) (N:=some 56) (v:=?_) (a':=?_) #[true,false,true,false,false,false,false,false,false,false,false] rfl rfl (any_of HT_.out (by kernel_rfl)) (fun _ _ _ h=>h) (Or.inl ⟨by rfl,?_⟩) ?_ ?_
  rotate_left
  ·intro w'
   go_simp
   with_reducible rfl
  rotate_left
  ·simp only [Act.put,List.setIfInBounds_toArray,List.set_cons_zero,List.set_cons_succ,i64_w,i32_w]
   rfl
  refine pure_ (i:=3) (N:=some 57) (v:=?_) (a':=?_) #[true,false,true,true,false,false,false,false,false,false,false] rfl rfl (any_of HT_.out (by kernel_rfl)) (fun _ _ _ h=>h) (Or.inl ⟨by rfl,?_⟩) ?_ ?_
  rotate_left
  ·intro w'
   go_simp
   with_reducible rfl
  rotate_left
  ·simp only [Act.put,List.setIfInBounds_toArray,List.set_cons_zero,List.set_cons_succ,i64_w,i32_w]
   rfl
  refine pure_ (i:=4) (N:=some 58) (v:=?_) (a':=?_) #[true,false,true,true,true,false,false,false,false,false,false] rfl rfl (any_of HT_.out (by kernel_rfl)) (fun _ _ _ h=>h) (Or.inl ⟨by rfl,?_⟩) ?_ ?_
  rotate_left
  ·intro w'
   go_simp
   with_reducible rfl
  rotate_left
  ·simp only [Act.put,List.setIfInBounds_toArray,List.set_cons_zero,List.set_cons_succ,i64_w,i32_w]
   rfl
  refine pure_ (i:=5) (N:=some 59) (v:=?_) (a':=?_) #[true,false,true,true,true,true,false,false,false,false,false] rfl rfl (any_of HT_.out (by kernel_rfl)) (fun _ _ _ h=>h) (Or.inl ⟨by rfl,?_⟩) ?_ ?_
  rotate_left
  ·intro w'
   go_simp
   with_reducible rfl
  rotate_left
  ·simp only [Act.put,List.setIfInBounds_toArray,List.set_cons_zero,List.set_cons_succ,i64_w,i32_w]
   rfl
  refine pure_ (i:=6) (N:=some 60) (v:=?_) (a':=?_) #[true,false,true,true,true,true,true,false,false,false,false] rfl rfl (any_of HT_.out (by kernel_rfl)) (fun _ _ _ h=>h) (Or.inl ⟨by rfl,?_⟩) ?_ ?_
  rotate_left
  ·intro w'
   go_simp
   with_reducible rfl
  rotate_left
  ·simp only [Act.put,List.setIfInBounds_toArray,List.set_cons_zero,List.set_cons_succ,i64_w,i32_w]
   rfl
  refine pure_ (i:=7) (N:=some 61) (v:=?_) (a':=?_) #[true,false,true,true,true,true,true,true,false,false,false] rfl rfl (any_of HT_.out (by kernel_rfl)) (fun _ _ _ h=>h) (Or.inl ⟨by rfl,?_⟩) ?_ ?_
  rotate_left
  ·intro w'
   go_simp
   with_reducible rfl
  rotate_left
  ·simp only [Act.put,List.setIfInBounds_toArray,List.set_cons_zero,List.set_cons_succ,i64_w,i32_w]
   rfl
  refine take_ (i:=1) (N:=some 55) (v:=?_) (a':=?_) #[true,true,true,true,true,true,true,true,false,false,false] rfl rfl (take_ofW HT_.out HW_.out (by kernel_rfl)) (fun _ _ _ h=>h) (Or.inl ⟨by rfl,?_⟩) hHeld ?_ ?_
  rotate_left
  ·rintro w' ⟨s0,s1,s2,s3,s4,s5⟩
   go_simp
   with_reducible rfl
  rotate_left
  ·simp only [Act.put,List.setIfInBounds_toArray,List.set_cons_zero,List.set_cons_succ,i64_w,i32_w]
   rfl
  refine pure_ (i:=8) (N:=some 62) (v:=?_) (a':=?_) #[true,true,true,true,true,true,true,true,true,false,false] rfl rfl (any_of HT_.out (by kernel_rfl)) (fun _ _ _ h=>h) (Or.inl ⟨by rfl,?_⟩) ?_ ?_
  rotate_left
  ·intro w'
   go_simp
   with_reducible rfl
  rotate_left
  ·simp only [Act.put,List.setIfInBounds_toArray,List.set_cons_zero,List.set_cons_succ,i64_w,i32_w]
   rfl
  refine one_ (i:=9) (N:=some 63) #[true,true,true,true,true,true,true,true,true,true,false] rfl rfl (one_of HT_.out (by kernel_rfl)) (by decide) (fun K hK=>?_)
  refine goesD_ 54 (num_fn (rules_range A14.out)) #[.agg #[.int .i64 ((zAC l0_3 x35_1).f0),.int .i64 ((zAC l0_3 x35_1).f1),.int .i64 ((zAC l0_3 x35_1).f2),.int .i64 ((zAC l0_3 x35_1).f3),.slice A619_4 ((zAC l0_3 x35_1).f4).length c619_4,.int .i64 ((zAC l0_3 x35_1).f5),.slice A32 y623.length c32,.slice A33 y627.length c33]] (by rfl) rfl rfl (by rfl) aM_ ?_
  with_reducible refine (units_dyn.calls kj14 t621 ((zAC l0_3 x35_1).f0) ((zAC l0_3 x35_1).f1) ((zAC l0_3 x35_1).f2) ((zAC l0_3 x35_1).f3) _ _ ((zAC l0_3 x35_1).f4) ((zAC l0_3 x35_1).f5) _ _ y623 _ _ y627 t631 _ ?side1 ?side2 ?side3 ?side4 ?side5 ?side6 A28.out).mono ?_
  (case side1=>repeat (first|exact (Kd.C_below HR619_4.out HB.out)|(with_reducible refine Kd.C_alloc ?_ _)|(with_reducible refine Kd.C_drewN ?_ _)|(with_reducible refine Kd.C_drew ?_)))
  (case side2=>exact HC619_4.out)
  (case side3=>repeat (first|exact (by repeat (first|(with_reducible exact HR626.out)|(with_reducible refine Kd.C_alloc ?_ _)|(with_reducible refine Kd.C_drewN ?_ _)|(with_reducible refine Kd.C_drew ?_)|exact HR626.out))|(with_reducible refine Kd.C_alloc ?_ _)|(with_reducible refine Kd.C_drewN ?_ _)|(with_reducible refine Kd.C_drew ?_)))
  (case side4=>exact HC626.out)
  (case side5=>repeat (first|exact (by repeat (first|(with_reducible exact HR630.out)|(with_reducible refine Kd.C_alloc ?_ _)|(with_reducible refine Kd.C_drewN ?_ _)|(with_reducible refine Kd.C_drew ?_)|exact HR630.out))|(with_reducible refine Kd.C_alloc ?_ _)|(with_reducible refine Kd.C_drewN ?_ _)|(with_reducible refine Kd.C_drew ?_)))
  (case side6=>exact HC630.out)
  rintro e w35 ⟨rfl,hb⟩
  refine ⟨_,rfl,?_⟩
  have n0_:=aK_ (Kd.R_below (aR_ HO_7.out) hb)
  have n1_:=aK_ (Kd.R_below (aR_ HO_9.out) hb)
  have n2_:=aK_ (Kd.R_below (aR_ HO_10.out) hb)
  have n3_:=aK_ (Kd.R_below (aR_ HO_11.out) hb)
  have n4_:=aK_ (zAN (g:=gb611) (o:=.cells #[.string a0_0,.slice A0_1 l0_1.length c0_1,.int .i64 a0_2,.slice (some ad619) l0_3.length c0_3] 25 (0,0)) (aB_ BK611.out) hb)
  have n5_:=aK_ (zAN (g:=gb620) (o:=.cells #[.int .i64 ((zAC l0_3 x35_1).f0),.int .i64 ((zAC l0_3 x35_1).f1),.int .i64 ((zAC l0_3 x35_1).f2),.int .i64 ((zAC l0_3 x35_1).f3),.slice A619_4 ((zAC l0_3 x35_1).f4).length c619_4,.int .i64 ((zAC l0_3 x35_1).f5)] 33 (0,0)) (aB_ BK620.out) hb)
  have n6_:=aK_ (Kd.C_below (by repeat (first|(with_reducible exact HR626.out)|(with_reducible refine Kd.C_alloc ?_ _)|(with_reducible refine Kd.C_drewN ?_ _)|(with_reducible refine Kd.C_drew ?_)|exact HR626.out)) hb)
  have n7_:=aK_ (Kd.C_below (by repeat (first|(with_reducible exact HR630.out)|(with_reducible refine Kd.C_alloc ?_ _)|(with_reducible refine Kd.C_drewN ?_ _)|(with_reducible refine Kd.C_drew ?_)|exact HR630.out)) hb)
  have n8_:=aK_ (zAH (aJ_ HB.out GE611.out GE620.out) hb)
  clear HO_7
  clear HO_9
  clear HO_10
  clear HO_11
  clear BK611
  clear BK620
  clear HR626
  clear HR630
  clear HB
  have HO_7:=n0_
  have HO_9:=n1_
  have HO_10:=n2_
  have HO_11:=n3_
  have BK611:=n4_
  have BK620:=n5_
  have HR626:=n6_
  have HR630:=n7_
  have HB:=n8_
  clear n0_ n1_ n2_ n3_ n4_ n5_ n6_ n7_ n8_
  (try clear hb)
  (try clear hb2)
  (try clear hk)
  (try clear hi)
  refine hK.out _ _ ⟨(zAB BK620.out 0).trans rfl,(zAB BK620.out 1).trans rfl,(zAB BK620.out 2).trans rfl,(zAB BK620.out 3).trans rfl,(zAB BK620.out 4).trans rfl,(zAB BK620.out 5).trans rfl⟩ (fun hHeld=>?_)
  clear hK K
  refine norm_ (a':=?_) ?_ ?_
  rotate_left
  ·show Act.put _ (some 63) _=_
   simp only [Act.put,List.setIfInBounds_toArray,List.set_cons_zero,List.set_cons_succ,i64_w,i32_w]
   rfl
  refine pure_ (i:=10) (N:=some 17) (v:=?_) (a':=?_) #[true,true,true,true,true,true,true,true,true,true,true] rfl rfl (any_of HT_.out (by kernel_rfl)) (fun _ _ _ h=>h) (Or.inl ⟨by rfl,?_⟩) ?_ ?_
  rotate_left
  ·intro w'
   go_simp
   with_reducible rfl
  rotate_left
  ·simp only [Act.put,List.setIfInBounds_toArray,List.set_cons_zero,List.set_cons_succ,i64_w,i32_w]
   rfl
  refine done_ (done_of HT_.out (by kernel_rfl)) ?_
  try go_wp2
  go_ret3
  exact ⟨_,by first|rfl|(simp [zAL,zAK] <;> rfl)|(simp only [← hji23];first|rfl|(simp [zAL,zAK] <;> rfl))|(simp [*,zAL,zAK] <;> rfl),by first|exact Kd.R_nil _ _ _ _ _|exact Kd.N_nil _ _ _ _ _|exact Kd.V_nil _ _ _ _ _|exact Kd.Q_nil _ _ _ _ _|exact Kd.S_nil _ _ _ _ _,aJ_ HB.out GE611.out GE620.out⟩
 rw [if_neg c29] at H
 have c29b0:(t631 == (-1))=false:=beq_eq_false_iff_ne.mpr c29
 have c29b1:(t631 != (-1))=true:=bne_iff_ne.mpr c29
 by_cases c36:((zAC l0_3 x35_1).f0)=8
 rotate_left
 ·rw [if_neg c36] at H
  have c36b0:(((zAC l0_3 x35_1).f0) == 8)=false:=beq_eq_false_iff_ne.mpr c36
  have c36b1:(((zAC l0_3 x35_1).f0) != 8)=true:=bne_iff_ne.mpr c36
  have c97:=yes_ H
  rw [if_pos c97] at H
  have LMc97:=aK_ c97
  clear c97
  obtain ⟨y666,hy666⟩:∃ y_:List Int,y_=(x9_1 ++ [t631]):=⟨_,rfl⟩
  replace H:((some (x10_1.take ((ji23):Int).toNat:List Int)).bind fun y669=>(if y669.length<17592186044416 then ((some (x11_1.take ((ji23):Int).toNat:List Bool)).bind fun y675=>(if 0≤x35_1 then (if x35_1<(t614.length:Int) then (if y675.length<140737488355328 then (zAG.l0 kj14 t614 y666 (y669 ++ [t631]) (y675 ++ [rdOf false t614 x35_1]) l0_3 (l0_3.length:Int) (wrap64 (x35_1+1))) else (none)) else (none)) else (none))) else (none)))=some (r1,r2,r3):=by first|(rw [hy666];with_reducible exact H)|(have H2_:=(Option.bind_some _ _).symm.trans H;rw [hy666];with_reducible exact H2_)|(have H2_:=(Option.bind_some _ _).symm.trans H;with_reducible exact H2_)|with_reducible exact H|(rw [hy666];exact H)|exact H
  have Ny666:=aK_ hy666
  clear hy666
  have c98b0:=eq_true (aD_:(ji23)≤(x10_1.length:Int))
  obtain ⟨y669,hy669⟩:∃ y_:List Int,y_=(x10_1.take ((ji23):Int).toNat):=⟨_,rfl⟩
  replace H:(if y669.length<17592186044416 then ((some (x11_1.take ((ji23):Int).toNat:List Bool)).bind fun y675=>(if 0≤x35_1 then (if x35_1<(t614.length:Int) then (if y675.length<140737488355328 then (zAG.l0 kj14 t614 y666 (y669 ++ [t631]) (y675 ++ [rdOf false t614 x35_1]) l0_3 (l0_3.length:Int) (wrap64 (x35_1+1))) else (none)) else (none)) else (none))) else (none))=some (r1,r2,r3):=by first|(rw [hy669];with_reducible exact H)|(have H2_:=(Option.bind_some _ _).symm.trans H;rw [hy669];with_reducible exact H2_)|(have H2_:=(Option.bind_some _ _).symm.trans H;with_reducible exact H2_)|with_reducible exact H|(rw [hy669];exact H)|exact H
  have Ny669:=aK_ hy669
  clear hy669
  have c99:=yes_ H
  rw [if_pos c99] at H
  have LMc99:=aK_ c99
  clear c99
  obtain ⟨y672,hy672⟩:∃ y_:List Int,y_=(y669 ++ [t631]):=⟨_,rfl⟩
  replace H:((some (x11_1.take ((ji23):Int).toNat:List Bool)).bind fun y675=>(if 0≤x35_1 then (if x35_1<(t614.length:Int) then (if y675.length<140737488355328 then (zAG.l0 kj14 t614 y666 y672 (y675 ++ [rdOf false t614 x35_1]) l0_3 (l0_3.length:Int) (wrap64 (x35_1+1))) else (none)) else (none)) else (none)))=some (r1,r2,r3):=by first|(rw [hy672];with_reducible exact H)|(have H2_:=(Option.bind_some _ _).symm.trans H;rw [hy672];with_reducible exact H2_)|(have H2_:=(Option.bind_some _ _).symm.trans H;with_reducible exact H2_)|with_reducible exact H|(rw [hy672];exact H)|exact H
  have Ny672:=aK_ hy672
  clear hy672
  have c100b0:=eq_true (aD_:(ji23)≤(x11_1.length:Int))
  obtain ⟨y675,hy675⟩:∃ y_:List Bool,y_=(x11_1.take ((ji23):Int).toNat):=⟨_,rfl⟩
  replace H:(if 0≤x35_1 then (if x35_1<(t614.length:Int) then (if y675.length<140737488355328 then (zAG.l0 kj14 t614 y666 y672 (y675 ++ [rdOf false t614 x35_1]) l0_3 (l0_3.length:Int) (wrap64 (x35_1+1))) else (none)) else (none)) else (none))=some (r1,r2,r3):=by first|(rw [hy675];with_reducible exact H)|(have H2_:=(Option.bind_some _ _).symm.trans H;rw [hy675];with_reducible exact H2_)|(have H2_:=(Option.bind_some _ _).symm.trans H;with_reducible exact H2_)|with_reducible exact H|(rw [hy675];exact H)|exact H
  have Ny675:=aK_ hy675
  clear hy675
  have c101:=yes_ H
  rw [if_pos c101] at H
  have c101b0:decide (0≤x35_1)=true:=decide_eq_true c101
  clear c101
  have c102:=yes_ H
  rw [if_pos c102] at H
  have c102b0:decide (x35_1<(t614.length:Int))=true:=decide_eq_true c102
  (try (have c102z0:=c102b0;simp only [hl619_4] at c102z0))
  clear c102
  have c103:=yes_ H
  rw [if_pos c103] at H
  have LMc103:=aK_ c103
  clear c103
  obtain ⟨y679,hy679⟩:∃ y_:List Bool,y_=(y675 ++ [rdOf false t614 x35_1]):=⟨_,rfl⟩
  replace H:(zAG.l0 kj14 t614 y666 y672 y679 l0_3 (l0_3.length:Int) (wrap64 (x35_1+1)))=some (r1,r2,r3):=by first|(rw [hy679];with_reducible exact H)|(have H2_:=(Option.bind_some _ _).symm.trans H;rw [hy679];with_reducible exact H2_)|(have H2_:=(Option.bind_some _ _).symm.trans H;with_reducible exact H2_)|with_reducible exact H|(rw [hy679];exact H)|exact H
  have Ny679:=aK_ hy679
  clear hy679
  have H':=aK_ H
  clear H
  obtain ⟨Ao104,co104,eo104⟩:=Kd.R_slice HO_10.out
  subst eo104
  try go_wp2
  have n0_:=aK_ (Kd.R_drew HO_7.out)
  have n1_:=aK_ (Kd.R_drew HO_9.out)
  have n2_:=aK_ (Kd.R_drew HO_10.out)
  have n3_:=aK_ (Kd.R_drew HO_11.out)
  have n4_:=aK_ (blk_drew BK611.out)
  have n5_:=aK_ (blk_drew BK620.out)
  have n6_:=aK_ (below_drew1 HB.out)
  clear HO_7
  clear HO_9
  clear HO_10
  clear HO_11
  clear BK611
  clear BK620
  clear HB
  have HO_7:=n0_
  have HO_9:=n1_
  have HO_10:=n2_
  have HO_11:=n3_
  have BK611:=n4_
  have BK620:=n5_
  have HB:=n6_
  clear n0_ n1_ n2_ n3_ n4_ n5_ n6_
  have q106:((ji23):Int)≤((x10_1.length:Int):Int):=aD_
  obtain ⟨i0106,hi0106,_,hsz106,_⟩:=info_parts info3
  have hroom106:x10_1.length≤co104:=(Kd.R_reads' HO_10.out).2.1
  have hC106:Kd.C (Kd.int .i64) _ Ao104 x10_1.length x10_1:=(Kd.R_reads' HO_10.out).2.2
  have q0106:(0:Int)≤((ji23):Int):=aD_
  have hcut106:=cut_from (P:=Tryd.prog) 36 3 .i64 Tryd.underlying36 hi0106 1 hsz106 Ao104 x10_1.length co104 (ji23) q0106 q106
  have hr106:=Kd.C_drop (m:=((ji23):Int).toNat) (c:=co104) hC106 (by omega) hroom106
  obtain ⟨A106,hA106⟩:∃ A1,A1=(if co104=((ji23):Int).toNat then Ao104 else (Ao104:Option Addr).map (·.add (((ji23):Int).toNat * 1))):=⟨_,rfl⟩
  obtain ⟨c106,hc106⟩:∃ c1,c1=co104 - ((ji23):Int).toNat:=⟨_,rfl⟩
  have hy106:y623.length=x10_1.length - ((ji23):Int).toNat:=(by rw [Ny623.out,List.length_drop] <;> omega)
  rw [show (x10_1).drop ((ji23):Int).toNat=y623 from Ny623.out.symm] at hr106
  replace hr106:Kd.C (Kd.int .i64) _ A106 y623.length y623:=(by rw [hA106];exact hr106)
  rw [← hy106,← hA106,← hc106] at hcut106
  have HR626:=aK_ hr106
  have HC626:=aK_ (show y623.length≤c106 from by rw [hy106,hc106];exact Nat.sub_le_sub_right hroom106 _)
  clear hr106 hC106 hroom106 hi0106 hsz106 hc106
  have KY106:=aK_ hy106
  have KA106:=aK_ hA106
  clear hy106 hA106
  have KL106:=aK_ (show ((ji23):Int).toNat≤x10_1.length from by omega)
  replace q106:=eq_true q106
  obtain ⟨Ao108,co108,eo108⟩:=Kd.R_slice HO_11.out
  (first|subst eo108|(injection eo108 with f1_ f2_ f3_;have f4_:=f1_.symm;have f5_:=f3_.symm;clear f1_ f2_ f3_;subst f4_;subst f5_))
  have q107:((ji23):Int)≤((x11_1.length:Int):Int):=aD_
  obtain ⟨i0107,hi0107,_,hsz107,_⟩:=info_parts info4
  have hroom107:x11_1.length≤co108:=(Kd.R_reads' HO_11.out).2.1
  have hC107:Kd.C Kd.bool _ Ao108 x11_1.length x11_1:=(Kd.R_reads' HO_11.out).2.2
  have q0107:(0:Int)≤((ji23):Int):=aD_
  have hcut107:=cut_from (P:=Tryd.prog) 49 4 .i64 Tryd.underlying49 hi0107 1 hsz107 Ao108 x11_1.length co108 (ji23) q0107 q107
  have hr107:=Kd.C_drop (m:=((ji23):Int).toNat) (c:=co108) hC107 (by omega) hroom107
  obtain ⟨A107,hA107⟩:∃ A1,A1=(if co108=((ji23):Int).toNat then Ao108 else (Ao108:Option Addr).map (·.add (((ji23):Int).toNat * 1))):=⟨_,rfl⟩
  obtain ⟨c107,hc107⟩:∃ c1,c1=co108 - ((ji23):Int).toNat:=⟨_,rfl⟩
  have hy107:y627.length=x11_1.length - ((ji23):Int).toNat:=(by rw [Ny627.out,List.length_drop] <;> omega)
  rw [show (x11_1).drop ((ji23):Int).toNat=y627 from Ny627.out.symm] at hr107
  replace hr107:Kd.C Kd.bool _ A107 y627.length y627:=(by rw [hA107];exact hr107)
  rw [← hy107,← hA107,← hc107] at hcut107
  have HR630:=aK_ hr107
  have HC630:=aK_ (show y627.length≤c107 from by rw [hy107,hc107];exact Nat.sub_le_sub_right hroom107 _)
  clear hr107 hC107 hroom107 hi0107 hsz107 hc107
  have KY107:=aK_ hy107
  have KA107:=aK_ hA107
  clear hy107 hA107
  have KL107:=aK_ (show ((ji23):Int).toNat≤x11_1.length from by omega)
  replace q107:=eq_true q107
  refine start_ (n:=11) (S:=fun w'=>w'.cell? ⟨gb620,0,none⟩=some (.int .i64 ((zAC l0_3 x35_1).f0))∧w'.cell? ⟨gb620,1,none⟩=some (.int .i64 ((zAC l0_3 x35_1).f1))∧w'.cell? ⟨gb620,2,none⟩=some (.int .i64 ((zAC l0_3 x35_1).f2))∧w'.cell? ⟨gb620,3,none⟩=some (.int .i64 ((zAC l0_3 x35_1).f3))∧w'.cell? ⟨gb620,4,none⟩=some (.slice A619_4 ((zAC l0_3 x35_1).f4).length c619_4)∧w'.cell? ⟨gb620,5,none⟩=some (.int .i64 ((zAC l0_3 x35_1).f5))) (ds:=[]) #[false,false,false,false,false,false,false,false,false,false,false] (by kernel_rfl) rfl rfl ⟨(zAB BK620.out 0).trans rfl,(zAB BK620.out 1).trans rfl,(zAB BK620.out 2).trans rfl,(zAB BK620.out 3).trans rfl,(zAB BK620.out 4).trans rfl,(zAB BK620.out 5).trans rfl⟩ (fun hHeld=>?_);refine with_tabW zAG.tab14 zAG.bits14 (fun HT_ HW_=>?_)
  generalize wc.drew=w105 at HO_7 HO_9 HO_10 HO_11 BK611 BK620 HB HR626 HR630 hHeld ⊢
  refine pure_ (i:=0) (N:=some 54) (v:=?_) (a':=?_) #[true,false,false,false,false,false,false,false,false,false,false] rfl rfl (any_of HT_.out (by kernel_rfl)) (fun _ _ _ h=>h) (Or.inl ⟨by rfl,?_⟩) ?_ ?_
  rotate_left
  ·intro w'
   go_simp
   with_reducible rfl
  rotate_left
  ·simp only [Act.put,List.setIfInBounds_toArray,List.set_cons_zero,List.set_cons_succ,i64_w,i32_w]
   rfl
  refine pure_ (i:=2) (N:=some 56) (v:=?_) (a':=?_) #[true,false,true,false,false,false,false,false,false,false,false] rfl rfl (any_of HT_.out (by kernel_rfl)) (fun _ _ _ h=>h) (Or.inl ⟨by rfl,?_⟩) ?_ ?_
  rotate_left
  ·intro w'
   go_simp
   with_reducible rfl
  rotate_left
  ·simp only [Act.put,List.setIfInBounds_toArray,List.set_cons_zero,List.set_cons_succ,i64_w,i32_w]
   rfl
  refine pure_ (i:=3) (N:=some 57) (v:=?_) (a':=?_) #[true,false,true,true,false,false,false,false,false,false,false] rfl rfl (any_of HT_.out (by kernel_rfl)) (fun _ _ _ h=>h) (Or.inl ⟨by rfl,?_⟩) ?_ ?_
  rotate_left
  ·intro w'
   go_simp
   with_reducible rfl
  rotate_left
  ·simp only [Act.put,List.setIfInBounds_toArray,List.set_cons_zero,List.set_cons_succ,i64_w,i32_w]
   rfl
  refine pure_ (i:=4) (N:=some 58) (v:=?_) (a':=?_) #[true,false,true,true,true,false,false,false,false,false,false] rfl rfl (any_of HT_.out (by kernel_rfl)) (fun _ _ _ h=>h) (Or.inl ⟨by rfl,?_⟩) ?_ ?_
  rotate_left
  ·intro w'
   go_simp
   with_reducible rfl
  rotate_left
  ·simp only [Act.put,List.setIfInBounds_toArray,List.set_cons_zero,List.set_cons_succ,i64_w,i32_w]
   rfl
  refine pure_ (i:=5) (N:=some 59) (v:=?_) (a':=?_) #[true,false,true,true,true,true,false,false,false,false,false] rfl rfl (any_of HT_.out (by kernel_rfl)) (fun _ _ _ h=>h) (Or.inl ⟨by rfl,?_⟩) ?_ ?_
  rotate_left
  ·intro w'
   go_simp
   with_reducible rfl
  rotate_left
  ·simp only [Act.put,List.setIfInBounds_toArray,List.set_cons_zero,List.set_cons_succ,i64_w,i32_w]
   rfl
  refine pure_ (i:=6) (N:=some 60) (v:=?_) (a':=?_) #[true,false,true,true,true,true,true,false,false,false,false] rfl rfl (any_of HT_.out (by kernel_rfl)) (fun _ _ _ h=>h) (Or.inl ⟨by rfl,?_⟩) ?_ ?_
  rotate_left
  ·intro w'
   go_simp
   with_reducible rfl
  rotate_left
  ·simp only [Act.put,List.setIfInBounds_toArray,List.set_cons_zero,List.set_cons_succ,i64_w,i32_w]
   rfl
  refine pure_ (i:=7) (N:=some 61) (v:=?_) (a':=?_) #[true,false,true,true,true,true,true,true,false,false,false] rfl rfl (any_of HT_.out (by kernel_rfl)) (fun _ _ _ h=>h) (Or.inl ⟨by rfl,?_⟩) ?_ ?_
  rotate_left
  ·intro w'
   go_simp
   with_reducible rfl
  rotate_left
  ·simp only [Act.put,List.setIfInBounds_toArray,List.set_cons_zero,List.set_cons_succ,i64_w,i32_w]
   rfl
  refine take_ (i:=1) (N:=some 55) (v:=?_) (a':=?_) #[true,true,true,true,true,true,true,true,false,false,false] rfl rfl (take_ofW HT_.out HW_.out (by kernel_rfl)) (fun _ _ _ h=>h) (Or.inl ⟨by rfl,?_⟩) hHeld ?_ ?_
  rotate_left
  ·rintro w' ⟨s0,s1,s2,s3,s4,s5⟩
   go_simp
   with_reducible rfl
  rotate_left
  ·simp only [Act.put,List.setIfInBounds_toArray,List.set_cons_zero,List.set_cons_succ,i64_w,i32_w]
   rfl
  refine pure_ (i:=8) (N:=some 62) (v:=?_) (a':=?_) #[true,true,true,true,true,true,true,true,true,false,false] rfl rfl (any_of HT_.out (by kernel_rfl)) (fun _ _ _ h=>h) (Or.inl ⟨by rfl,?_⟩) ?_ ?_
  rotate_left
  ·intro w'
   go_simp
   with_reducible rfl
  rotate_left
  ·simp only [Act.put,List.setIfInBounds_toArray,List.set_cons_zero,List.set_cons_succ,i64_w,i32_w]
   rfl
  refine one_ (i:=9) (N:=some 63) #[true,true,true,true,true,true,true,true,true,true,false] rfl rfl (one_of HT_.out (by kernel_rfl)) (by decide) (fun K hK=>?_)
  refine goesD_ 54 (num_fn (rules_range A14.out)) #[.agg #[.int .i64 ((zAC l0_3 x35_1).f0),.int .i64 ((zAC l0_3 x35_1).f1),.int .i64 ((zAC l0_3 x35_1).f2),.int .i64 ((zAC l0_3 x35_1).f3),.slice A619_4 ((zAC l0_3 x35_1).f4).length c619_4,.int .i64 ((zAC l0_3 x35_1).f5),.slice A106 y623.length c106,.slice A107 y627.length c107]] (by rfl) rfl rfl (by rfl) aM_ ?_
  with_reducible refine (units_dyn.calls kj14 t621 ((zAC l0_3 x35_1).f0) ((zAC l0_3 x35_1).f1) ((zAC l0_3 x35_1).f2) ((zAC l0_3 x35_1).f3) _ _ ((zAC l0_3 x35_1).f4) ((zAC l0_3 x35_1).f5) _ _ y623 _ _ y627 t631 _ ?side1 ?side2 ?side3 ?side4 ?side5 ?side6 A28.out).mono ?_
  (case side1=>repeat (first|exact (Kd.C_below HR619_4.out HB.out)|(with_reducible refine Kd.C_alloc ?_ _)|(with_reducible refine Kd.C_drewN ?_ _)|(with_reducible refine Kd.C_drew ?_)))
  (case side2=>exact HC619_4.out)
  (case side3=>repeat (first|exact (by repeat (first|(with_reducible exact HR626.out)|(with_reducible refine Kd.C_alloc ?_ _)|(with_reducible refine Kd.C_drewN ?_ _)|(with_reducible refine Kd.C_drew ?_)|exact HR626.out))|(with_reducible refine Kd.C_alloc ?_ _)|(with_reducible refine Kd.C_drewN ?_ _)|(with_reducible refine Kd.C_drew ?_)))
  (case side4=>exact HC626.out)
  (case side5=>repeat (first|exact (by repeat (first|(with_reducible exact HR630.out)|(with_reducible refine Kd.C_alloc ?_ _)|(with_reducible refine Kd.C_drewN ?_ _)|(with_reducible refine Kd.C_drew ?_)|exact HR630.out))|(with_reducible refine Kd.C_alloc ?_ _)|(with_reducible refine Kd.C_drewN ?_ _)|(with_reducible refine Kd.C_drew ?_)))
  (case side6=>exact HC630.out)
  rintro e w109 ⟨rfl,hb⟩
  refine ⟨_,rfl,?_⟩
  have n0_:=aK_ (Kd.R_below (aR_ HO_7.out) hb)
  have n1_:=aK_ (Kd.R_below (aR_ HO_9.out) hb)
  have n2_:=aK_ (Kd.R_below (aR_ HO_10.out) hb)
  have n3_:=aK_ (Kd.R_below (aR_ HO_11.out) hb)
  have n4_:=aK_ (zAN (g:=gb611) (o:=.cells #[.string a0_0,.slice A0_1 l0_1.length c0_1,.int .i64 a0_2,.slice (some ad619) l0_3.length c0_3] 25 (0,0)) (aB_ BK611.out) hb)
  have n5_:=aK_ (zAN (g:=gb620) (o:=.cells #[.int .i64 ((zAC l0_3 x35_1).f0),.int .i64 ((zAC l0_3 x35_1).f1),.int .i64 ((zAC l0_3 x35_1).f2),.int .i64 ((zAC l0_3 x35_1).f3),.slice A619_4 ((zAC l0_3 x35_1).f4).length c619_4,.int .i64 ((zAC l0_3 x35_1).f5)] 33 (0,0)) (aB_ BK620.out) hb)
  have n6_:=aK_ (Kd.C_below (by repeat (first|(with_reducible exact HR626.out)|(with_reducible refine Kd.C_alloc ?_ _)|(with_reducible refine Kd.C_drewN ?_ _)|(with_reducible refine Kd.C_drew ?_)|exact HR626.out)) hb)
  have n7_:=aK_ (Kd.C_below (by repeat (first|(with_reducible exact HR630.out)|(with_reducible refine Kd.C_alloc ?_ _)|(with_reducible refine Kd.C_drewN ?_ _)|(with_reducible refine Kd.C_drew ?_)|exact HR630.out)) hb)
  have n8_:=aK_ (zAH (aJ_ HB.out GE611.out GE620.out) hb)
  clear HO_7
  clear HO_9
  clear HO_10
  clear HO_11
  clear BK611
  clear BK620
  clear HR626
  clear HR630
  clear HB
  have HO_7:=n0_
  have HO_9:=n1_
  have HO_10:=n2_
  have HO_11:=n3_
  have BK611:=n4_
  have BK620:=n5_
  have HR626:=n6_
  have HR630:=n7_
  have HB:=n8_
  clear n0_ n1_ n2_ n3_ n4_ n5_ n6_ n7_ n8_
  (try clear hb)
  (try clear hb2)
  (try clear hk)
  (try clear hi)
  refine hK.out _ _ ⟨(zAB BK620.out 0).trans rfl,(zAB BK620.out 1).trans rfl,(zAB BK620.out 2).trans rfl,(zAB BK620.out 3).trans rfl,(zAB BK620.out 4).trans rfl,(zAB BK620.out 5).trans rfl⟩ (fun hHeld=>?_)
  clear hK K
  refine norm_ (a':=?_) ?_ ?_
  rotate_left
  ·show Act.put _ (some 63) _=_
   simp only [Act.put,List.setIfInBounds_toArray,List.set_cons_zero,List.set_cons_succ,i64_w,i32_w]
   rfl
  refine pure_ (i:=10) (N:=some 17) (v:=?_) (a':=?_) #[true,true,true,true,true,true,true,true,true,true,true] rfl rfl (any_of HT_.out (by kernel_rfl)) (fun _ _ _ h=>h) (Or.inl ⟨by rfl,?_⟩) ?_ ?_
  rotate_left
  ·intro w'
   go_simp
   with_reducible rfl
  rotate_left
  ·simp only [Act.put,List.setIfInBounds_toArray,List.set_cons_zero,List.set_cons_succ,i64_w,i32_w]
   rfl
  refine done_ (done_of HT_.out (by kernel_rfl)) ?_
  have hnb110:=NB620_611.out
  have hnc110:=NB611_620.out
  have hcz111_0:w109.cell? ⟨gb620,0,none⟩=some (.int .i64 ((zAC l0_3 x35_1).f0)):=(zAB BK620.out 0).trans rfl
  have hcz111_1:w109.cell? ⟨gb620,1,none⟩=some (.int .i64 ((zAC l0_3 x35_1).f1)):=(zAB BK620.out 1).trans rfl
  have hcz111_2:w109.cell? ⟨gb620,2,none⟩=some (.int .i64 ((zAC l0_3 x35_1).f2)):=(zAB BK620.out 2).trans rfl
  have hcz111_3:w109.cell? ⟨gb620,3,none⟩=some (.int .i64 ((zAC l0_3 x35_1).f3)):=(zAB BK620.out 3).trans rfl
  have hcz111_4:w109.cell? ⟨gb620,4,none⟩=some (.slice A619_4 ((zAC l0_3 x35_1).f4).length c619_4):=(zAB BK620.out 4).trans rfl
  have hcz111_5:w109.cell? ⟨gb620,5,none⟩=some (.int .i64 ((zAC l0_3 x35_1).f5)):=(zAB BK620.out 5).trans rfl
  have hfz111_0:=zAA BK620.out 0
  have hfz111_1:=zAA BK620.out 1
  have hfz111_2:=zAA BK620.out 2
  have hfz111_3:=zAA BK620.out 3
  have hfz111_4:=zAA BK620.out 4
  have hfz111_5:=zAA BK620.out 5
  try go_wp2_with (first|((with_reducible refine gate_builtin (b:=.append) (xs:=#[.tmp 86,.tmp 88]) rfl ?_);at_builtin;refine Kd.R_append (Kd.int .i64) (w0:=w) w.heap.size rfl (.tmp 86) (.tmp 88) 36 3 (.int .i64 0) 8 rfl Tryd.underlying36 info3 rfl (by decide) (by omega) u9 x9_1 t631 [.int .i64 t631] (fun k_=>some k_≠(.slice Ao104 x10_1.length co104:Value).ownBlock) (fun _=>False) rfl rfl ?aP (fun _ hk=>hk.elim) ?aF ?aO ?aB ?aS ?aL ?_;(case aP=>exact rfl);(case aB=>exact (aJ_ HB.out GE611.out GE620.out));(case aF=>exact (fun k_ hk=>Kd.fresh' (Kd.R_lt (aR_ HO_10.out)) k_ hk));(case aO=>exact (aR_ HO_9.out));(case aS=>exact (zAE (aJ_ HB.out GE611.out GE620.out)));(case aL=>have:=LMc97.out;omega);intro v667 w112 ho hb hg hat;rw [← Ny666.out] at ho;have n0_:=aK_ (Kd.R_over' (aR_ HO_7.out) (Kd.R_typed (aR_ HO_9.out)) (by decide) hg);have n1_:=aK_ (Kd.R_after (ok:=(fun _=>True)) (by refine aR_ ?_;exact Kd.R_mono HO_10.out (fun _ hk=>⟨trivial,by first|exact hk|exact ob_ne hk⟩)) hg hat);have n2_:=aK_ (Kd.R_over' (aR_ HO_11.out) (Kd.R_typed (aR_ HO_9.out)) (by decide) hg);have n3_:=aK_ (blk_grown (g:=gb611) (o:=.cells #[.string a0_0,.slice A0_1 l0_1.length c0_1,.int .i64 a0_2,.slice (some ad619) l0_3.length c0_3] 25 (0,0)) (aB_ BK611.out) hg (Kd.R_ne HO_9.out BK611.out (by decide)));have n4_:=aK_ (blk_grown (g:=gb620) (o:=.cells #[.int .i64 ((zAC l0_3 x35_1).f0),.int .i64 ((zAC l0_3 x35_1).f1),.int .i64 ((zAC l0_3 x35_1).f2),.int .i64 ((zAC l0_3 x35_1).f3),.slice A619_4 ((zAC l0_3 x35_1).f4).length c619_4,.int .i64 ((zAC l0_3 x35_1).f5)] 33 (0,0)) (aB_ BK620.out) hg (Kd.R_ne HO_9.out BK620.out (by decide)));have n5_:=aK_ (hb);have n6_:=aK_ ((show Kd.C (Kd.int .i64) w112 A106 y623.length y623 from by rw [Ny623.out,KA106.out];exact Kd.C_drop (m:=((ji23):Int).toNat) (c:=co104) ((Kd.R_reads' (Kd.R_after (ok:=(fun _=>True)) (by refine aR_ ?_;exact Kd.R_mono HO_10.out (fun _ hk=>⟨trivial,by first|exact hk|exact ob_ne hk⟩)) hg hat)).2.2) KL106.out ((Kd.R_reads' (Kd.R_after (ok:=(fun _=>True)) (by refine aR_ ?_;exact Kd.R_mono HO_10.out (fun _ hk=>⟨trivial,by first|exact hk|exact ob_ne hk⟩)) hg hat)).2.1)));have n7_:=aK_ ((show Kd.C Kd.bool w112 A107 y627.length y627 from by rw [Ny627.out,KA107.out];exact Kd.C_drop (m:=((ji23):Int).toNat) (c:=co108) ((Kd.R_reads' (Kd.R_over' (aR_ HO_11.out) (Kd.R_typed (aR_ HO_9.out)) (by decide) hg)).2.2) KL107.out ((Kd.R_reads' (Kd.R_over' (aR_ HO_11.out) (Kd.R_typed (aR_ HO_9.out)) (by decide) hg)).2.1)));have n8_:=aK_ (ho);clear HO_7;clear HO_10;clear HO_11;clear BK611;clear BK620;clear HB;clear HR626;clear HR630;clear HO_9;have HO_7:=n0_;have HO_10:=n1_;have HO_11:=n2_;have BK611:=n3_;have BK620:=n4_;have HB:=n5_;have HR626:=n6_;have HR630:=n7_;have HO668:=n8_;clear n0_ n1_ n2_ n3_ n4_ n5_ n6_ n7_ n8_;clear ho hb hg hat;have q113:((ji23):Int)≤((x10_1.length:Int):Int):=aD_;obtain ⟨i0113,hi0113,_,hsz113,_⟩:=info_parts info3;have hcut113:=cut_to (P:=Tryd.prog) 36 3 .i64 Tryd.underlying36 hi0113 Ao104 x10_1.length co104 (ji23) aD_ q113 (Kd.R_reads' HO_10.out).2.1;have hr113:=Kd.R_take (m:=((ji23):Int).toNat) HO_10.out (by omega);have hy113:y669.length=((ji23):Int).toNat:=(by rw [Ny669.out,List.length_take];omega);rw [← Ny669.out] at hr113;rw [← hy113] at hr113 hcut113;clear hy113 hi0113 hsz113 HO_10;have HO671:=aK_ hr113;clear hr113;replace q113:=eq_true q113)|((with_reducible refine gate_builtin (b:=.append) (xs:=#[.tmp 92,.tmp 94]) rfl ?_);at_builtin;refine Kd.R_append (Kd.int .i64) (w0:=w) w.heap.size rfl (.tmp 92) (.tmp 94) 36 3 (.int .i64 0) 8 rfl Tryd.underlying36 info3 rfl (by decide) (by omega) (.slice Ao104 y669.length co104) y669 t631 [.int .i64 t631] (fun k_=>some k_≠(v667:Value).ownBlock) (fun _=>False) rfl rfl ?aP (fun _ hk=>hk.elim) ?aF ?aO ?aB ?aS ?aL ?_;(case aP=>exact rfl);(case aB=>exact (aJ_ HB.out GE611.out GE620.out));(case aF=>exact (fun k_ hk=>Kd.fresh' (Kd.R_lt (aR_ HO668.out)) k_ hk));(case aO=>exact (by refine aR_ ?_;exact Kd.R_mono HO671.out (fun _ hk=>hk.2)));(case aS=>exact (zAE (aJ_ HB.out GE611.out GE620.out)));(case aL=>have:=LMc99.out;omega);intro v673 w114 ho hb hg hat;rw [← Ny672.out] at ho;have n0_:=aK_ (Kd.R_over' (aR_ HO_7.out) (Kd.R_typed (aR_ HO671.out)) (by decide) hg);have n1_:=aK_ (Kd.R_over' (aR_ HO_11.out) (Kd.R_typed (aR_ HO671.out)) (by decide) hg);have n2_:=aK_ (blk_grown (g:=gb611) (o:=.cells #[.string a0_0,.slice A0_1 l0_1.length c0_1,.int .i64 a0_2,.slice (some ad619) l0_3.length c0_3] 25 (0,0)) (aB_ BK611.out) hg (Kd.R_ne HO671.out BK611.out (by decide)));have n3_:=aK_ (blk_grown (g:=gb620) (o:=.cells #[.int .i64 ((zAC l0_3 x35_1).f0),.int .i64 ((zAC l0_3 x35_1).f1),.int .i64 ((zAC l0_3 x35_1).f2),.int .i64 ((zAC l0_3 x35_1).f3),.slice A619_4 ((zAC l0_3 x35_1).f4).length c619_4,.int .i64 ((zAC l0_3 x35_1).f5)] 33 (0,0)) (aB_ BK620.out) hg (Kd.R_ne HO671.out BK620.out (by decide)));have n4_:=aK_ (Kd.R_after (ok:=(fun _=>True)) (by refine aR_ ?_;exact Kd.R_mono HO668.out (fun _ hk=>⟨trivial,by first|exact hk|exact ob_ne hk⟩)) hg hat);have n5_:=aK_ (hb);have n6_:=aK_ ((show Kd.C Kd.bool w114 A107 y627.length y627 from by rw [Ny627.out,KA107.out];exact Kd.C_drop (m:=((ji23):Int).toNat) (c:=co108) ((Kd.R_reads' (Kd.R_over' (aR_ HO_11.out) (Kd.R_typed (aR_ HO671.out)) (by decide) hg)).2.2) KL107.out ((Kd.R_reads' (Kd.R_over' (aR_ HO_11.out) (Kd.R_typed (aR_ HO671.out)) (by decide) hg)).2.1)));have n7_:=aK_ (ho);clear HO_7;clear HO_11;clear BK611;clear BK620;clear HO668;clear HB;clear HR630;clear HO671;have HO_7:=n0_;have HO_11:=n1_;have BK611:=n2_;have BK620:=n3_;have HO668:=n4_;have HB:=n5_;have HR630:=n6_;have HO674:=n7_;clear n0_ n1_ n2_ n3_ n4_ n5_ n6_ n7_;clear ho hb hg hat))
  have n0_:=aK_ (Kd.R_drew HO_7.out)
  have n1_:=aK_ (Kd.R_drew HO_11.out)
  have n2_:=aK_ (Kd.R_drew HO668.out)
  have n3_:=aK_ (Kd.R_drew HO674.out)
  have n4_:=aK_ (blk_drew BK611.out)
  have n5_:=aK_ (blk_drew BK620.out)
  have n6_:=aK_ (Kd.C_drew HR630.out)
  have n7_:=aK_ (below_drew1 HB.out)
  clear HO_7
  clear HO_11
  clear HO668
  clear HO674
  clear BK611
  clear BK620
  clear HR630
  clear HB
  have HO_7:=n0_
  have HO_11:=n1_
  have HO668:=n2_
  have HO674:=n3_
  have BK611:=n4_
  have BK620:=n5_
  have HR630:=n6_
  have HB:=n7_
  clear n0_ n1_ n2_ n3_ n4_ n5_ n6_ n7_
  have q116:((ji23):Int)≤((x11_1.length:Int):Int):=aD_
  obtain ⟨i0116,hi0116,_,hsz116,_⟩:=info_parts info4
  have hcut116:=cut_to (P:=Tryd.prog) 49 4 .i64 Tryd.underlying49 hi0116 Ao108 x11_1.length co108 (ji23) aD_ q116 (Kd.R_reads' HO_11.out).2.1
  have hr116:=Kd.R_take (m:=((ji23):Int).toNat) HO_11.out (by omega)
  have hy116:y675.length=((ji23):Int).toNat:=(by rw [Ny675.out,List.length_take];omega)
  rw [← Ny675.out] at hr116
  rw [← hy116] at hr116 hcut116
  clear hy116 hi0116 hsz116 HO_11
  have HO677:=aK_ hr116
  clear hr116
  replace q116:=eq_true q116
  obtain ⟨Ao117,co117,eo117⟩:=Kd.R_slice HO_7.out
  (first|subst eo117|(injection eo117 with f1_ f2_ f3_;have f4_:=f1_.symm;have f5_:=f3_.symm;clear f1_ f2_ f3_;subst f4_;subst f5_))
  have p678:0≤(x35_1:Int):=aD_
  have q678:x35_1<(t614.length:Int):=aD_
  obtain ⟨ad678,e678,hx678_0⟩:=Kd.at_bool (Kd.R_reads' HO_7.out).2.2 x35_1 p678 q678
  cases e678
  replace p678:=eq_true p678
  replace q678:=eq_true q678
  refine start_ (n:=10) (S:=fun w'=>w'.cell? (ad678.add (x35_1).toNat)=some (.bool (rdOf false t614 x35_1))) (ds:=[7,8]) #[false,false,false,false,false,false,false,false,false,false] (by kernel_rfl) rfl rfl (hx678_0) (fun hHeld=>?_);refine with_tabW zAG.tab21 zAG.bits21 (fun HT_ HW_=>?_)
  generalize w114.drew=w115 at HO_7 HO_11 HO668 HO674 BK611 BK620 HR630 HB HO677 hx678_0 hHeld ⊢
  refine pure_ (i:=0) (N:=some 96) (v:=?_) (a':=?_) #[true,false,false,false,false,false,false,false,false,false] rfl rfl (any_of HT_.out (by kernel_rfl)) (fun _ _ _ h=>h) (Or.inl ⟨by rfl,?_⟩) ?_ ?_
  rotate_left
  ·intro w'
   go_simp
   with_reducible rfl
  rotate_left
  ·simp only [Act.put,List.setIfInBounds_toArray,List.set_cons_zero,List.set_cons_succ,i64_w,i32_w]
   rfl
  refine pure_ (i:=1) (N:=some 97) (v:=?_) (a':=?_) #[true,true,false,false,false,false,false,false,false,false] rfl rfl (any_of HT_.out (by kernel_rfl)) (fun _ _ _ h=>h) (Or.inl ⟨by rfl,?_⟩) ?_ ?_
  rotate_left
  ·intro w'
   go_simp
   with_reducible rfl
  rotate_left
  ·simp only [Act.put,List.setIfInBounds_toArray,List.set_cons_zero,List.set_cons_succ,i64_w,i32_w]
   rfl
  refine pure_ (i:=2) (N:=some 98) (v:=?_) (a':=?_) #[true,true,true,false,false,false,false,false,false,false] rfl rfl (any_of HT_.out (by kernel_rfl)) (fun _ _ _ h=>h) (Or.inl ⟨by rfl,?_⟩) ?_ ?_
  rotate_left
  ·intro w'
   go_simp
   with_reducible rfl
  rotate_left
  ·simp only [Act.put,List.setIfInBounds_toArray,List.set_cons_zero,List.set_cons_succ,i64_w,i32_w]
   rfl
  refine pure_ (i:=3) (N:=some 99) (v:=?_) (a':=?_) #[true,true,true,true,false,false,false,false,false,false] rfl rfl (any_of HT_.out (by kernel_rfl)) (fun _ _ _ h=>h) (Or.inl ⟨by rfl,?_⟩) ?_ ?_
  rotate_left
  ·intro w'
   go_simp
   with_reducible rfl
  rotate_left
  ·simp only [Act.put,List.setIfInBounds_toArray,List.set_cons_zero,List.set_cons_succ,i64_w,i32_w]
   rfl
  refine pure_ (i:=4) (N:=some 100) (v:=?_) (a':=?_) #[true,true,true,true,true,false,false,false,false,false] rfl rfl (any_of HT_.out (by kernel_rfl)) (fun _ _ _ h=>h) (Or.inl ⟨by rfl,?_⟩) ?_ ?_
  rotate_left
  ·intro w'
   go_simp
   with_reducible rfl
  rotate_left
  ·simp only [Act.put,List.setIfInBounds_toArray,List.set_cons_zero,List.set_cons_succ,i64_w,i32_w]
   rfl
  refine pure_ (i:=5) (N:=some 101) (v:=?_) (a':=?_) #[true,true,true,true,true,true,false,false,false,false] rfl rfl (any_of HT_.out (by kernel_rfl)) (fun _ _ _ h=>h) (Or.inl ⟨by rfl,?_⟩) ?_ ?_
  rotate_left
  ·intro w'
   go_simp
   with_reducible rfl
  rotate_left
  ·simp only [Act.put,List.setIfInBounds_toArray,List.set_cons_zero,List.set_cons_succ,i64_w,i32_w]
   rfl
  refine take_ (i:=6) (N:=some 102) (v:=?_) (a':=?_) #[true,true,true,true,true,true,true,false,false,false] rfl rfl (take_ofW HT_.out HW_.out (by kernel_rfl)) (fun _ _ _ h=>h) (Or.inl ⟨by rfl,?_⟩) hHeld ?_ ?_
  rotate_left
  ·intro w' s0
   go_simp
   with_reducible rfl
  rotate_left
  ·simp only [Act.put,List.setIfInBounds_toArray,List.set_cons_zero,List.set_cons_succ,i64_w,i32_w]
   rfl
  refine last_ (i:=7) (N:=some 103) #[true,true,true,true,true,true,true,true,false,false] rfl rfl (one_of HT_.out (by kernel_rfl)) (by decide) (fun K hK=>?_)
  refine value_ (w1:=?_) (v:=?_) (by rfl) rfl ?_ ?_
  rotate_left 2
  ·go_simp
   constructor
   ·rfl
   ·rfl
  refine hK.out _ _ ?_
  clear hK K
  refine norm_ (a':=?_) ?_ ?_
  rotate_left
  ·show Act.put _ (some 103) _=_
   simp only [Act.put,List.setIfInBounds_toArray,List.set_cons_zero,List.set_cons_succ,i64_w,i32_w]
   rfl
  refine last_ (i:=8) (N:=some 104) #[true,true,true,true,true,true,true,true,true,false] rfl rfl (one_of HT_.out (by kernel_rfl)) (by decide) (fun K hK=>?_)
  refine Kd.R_append_step Kd.bool (w0:=w) w.heap.size (by rfl) (.tmp 98) (.tmp 103) 49 4 (.bool false) 1 rfl Tryd.underlying49 info4 rfl (by decide) (by omega) (.slice Ao108 y675.length co108) y675 (rdOf false t614 x35_1) [.bool (rdOf false t614 x35_1)] (fun k_=>some k_≠(.slice (some ad678) t614.length co117:Value).ownBlock) (fun _=>False) rfl rfl ?aP (fun _ hk=>hk.elim) ?aF ?aO ?aB ?aS ?aL ?_
  (case aP=>exact rfl)
  (case aB=>exact (aJ_ HB.out GE611.out GE620.out))
  (case aF=>exact (fun k_ hk=>Kd.fresh' (Kd.R_lt (aR_ HO_7.out)) k_ hk))
  (case aO=>exact (aR_ HO677.out))
  (case aS=>exact (zAE (aJ_ HB.out GE611.out GE620.out)))
  (case aL=>have:=LMc103.out;omega)
  intro v680 w118 ho hb hg hat
  rw [← Ny679.out] at ho
  have n0_:=aK_ (Kd.R_after (ok:=(fun _=>True)) (by refine aR_ ?_;exact Kd.R_mono HO_7.out (fun _ hk=>⟨trivial,by first|exact hk|exact ob_ne hk⟩)) hg hat)
  have n1_:=aK_ (blk_grown (g:=gb611) (o:=.cells #[.string a0_0,.slice A0_1 l0_1.length c0_1,.int .i64 a0_2,.slice (some ad619) l0_3.length c0_3] 25 (0,0)) (aB_ BK611.out) hg (Kd.R_ne HO677.out BK611.out (by decide)))
  have n2_:=aK_ (blk_grown (g:=gb620) (o:=.cells #[.int .i64 ((zAC l0_3 x35_1).f0),.int .i64 ((zAC l0_3 x35_1).f1),.int .i64 ((zAC l0_3 x35_1).f2),.int .i64 ((zAC l0_3 x35_1).f3),.slice A619_4 ((zAC l0_3 x35_1).f4).length c619_4,.int .i64 ((zAC l0_3 x35_1).f5)] 33 (0,0)) (aB_ BK620.out) hg (Kd.R_ne HO677.out BK620.out (by decide)))
  have n3_:=aK_ (Kd.R_over' (aR_ HO668.out) (Kd.R_typed (aR_ HO677.out)) (by decide) hg)
  have n4_:=aK_ (Kd.R_over' (aR_ HO674.out) (Kd.R_typed (aR_ HO677.out)) (by decide) hg)
  have n5_:=aK_ (hb)
  have n6_:=aK_ (ho)
  clear HO_7
  clear BK611
  clear BK620
  clear HO668
  clear HO674
  clear HB
  clear HO677
  have HO_7:=n0_
  have BK611:=n1_
  have BK620:=n2_
  have HO668:=n3_
  have HO674:=n4_
  have HB:=n5_
  have HO681:=n6_
  clear n0_ n1_ n2_ n3_ n4_ n5_ n6_
  clear ho hb hg hat
  refine hK.out _ _ ?_
  clear hK K
  refine norm_ (a':=?_) ?_ ?_
  rotate_left
  ·show Act.put _ (some 104) _=_
   simp only [Act.put,List.setIfInBounds_toArray,List.set_cons_zero,List.set_cons_succ,i64_w,i32_w]
   rfl
  refine pure_ (i:=9) (N:=some 11) (v:=?_) (a':=?_) #[true,true,true,true,true,true,true,true,true,true] rfl rfl (any_of HT_.out (by kernel_rfl)) (fun _ _ _ h=>h) (Or.inl ⟨by rfl,?_⟩) ?_ ?_
  rotate_left
  ·intro w'
   go_simp
   with_reducible rfl
  rotate_left
  ·simp only [Act.put,List.setIfInBounds_toArray,List.set_cons_zero,List.set_cons_succ,i64_w,i32_w]
   rfl
  refine done_ (done_of HT_.out (by kernel_rfl)) ?_
  try go_wp2
  go_roundg kj14
  case measure=>have:=HK1.out;have:=HJ14.out;omega
  case rel=>exact ⟨(y666),(y672),(y679),(wrap64 (x35_1+1)),aS2_,H',⟨by have:=HK1.out;have:=HJ14.out;omega⟩,⟨by refine aR_ ?_;exact Kd.R_mono HO_7.out (fun _ hk=>hk.2)⟩,⟨by refine aR_ ?_;exact Kd.R_mono HO668.out (fun _ hk=>hk.2)⟩,⟨aR_ HO674.out⟩,⟨aR_ HO681.out⟩,⟨aB_ BK611.out⟩,⟨aJ_ HB.out GE611.out GE620.out⟩⟩
 rw [if_pos c36] at H
 have c36b0:(((zAC l0_3 x35_1).f0) == 8)=true:=beq_iff_eq.mpr c36
 have c36b1:(((zAC l0_3 x35_1).f0) != 8)=false:=bne_eq_false_iff_eq.mpr c36
 clear c36
 have c37:=yes_ H
 rw [if_pos c37] at H
 have c37b0:decide ((ji23)<(x11_1.length:Int))=true:=decide_eq_true c37
 clear c37
 obtain ⟨bq38,hbq38⟩:∃ b_:Bool,b_=(rdOf false x11_1 (ji23)):=⟨_,rfl⟩
 replace H:(if (bq38=true) then (if x9_1.length<17592186044416 then ((some (x10_1.take ((ji23):Int).toNat:List Int)).bind fun y636=>(if y636.length<17592186044416 then ((some (x11_1.take ((ji23):Int).toNat:List Bool)).bind fun y642=>(if 0≤x35_1 then (if x35_1<(t614.length:Int) then (if y642.length<140737488355328 then (zAG.l0 kj14 t614 (x9_1 ++ [t631]) (y636 ++ [t631]) (y642 ++ [rdOf false t614 x35_1]) l0_3 (l0_3.length:Int) (wrap64 (x35_1+1))) else (none)) else (none)) else (none))) else (none))) else (none)) else (if 0≤(wrap64 ((ji23)+1)) then (if (wrap64 ((ji23)+1))<(x11_1.length:Int) then (if (rdOf false x11_1 (wrap64 ((ji23)+1))=true) then (if x9_1.length<17592186044416 then ((some (x10_1.take ((ji23):Int).toNat:List Int)).bind fun y653=>(if y653.length<17592186044416 then ((some (x11_1.take ((ji23):Int).toNat:List Bool)).bind fun y659=>(if 0≤x35_1 then (if x35_1<(t614.length:Int) then (if y659.length<140737488355328 then (zAG.l0 kj14 t614 (x9_1 ++ [t631]) (y653 ++ [t631]) (y659 ++ [rdOf false t614 x35_1]) l0_3 (l0_3.length:Int) (wrap64 (x35_1+1))) else (none)) else (none)) else (none))) else (none))) else (none)) else (some (([]:List Int),x35_1,81))) else (none)) else (none)))=some (r1,r2,r3):=by rw [← hbq38] at H;exact H
 have Nbq38:=aK_ hbq38
 clear hbq38
 by_cases c39:(bq38=true)
 ·subst c39
  have H1:(if x9_1.length<17592186044416 then ((some (x10_1.take ((ji23):Int).toNat:List Int)).bind fun y636=>(if y636.length<17592186044416 then ((some (x11_1.take ((ji23):Int).toNat:List Bool)).bind fun y642=>(if 0≤x35_1 then (if x35_1<(t614.length:Int) then (if y642.length<140737488355328 then (zAG.l0 kj14 t614 (x9_1 ++ [t631]) (y636 ++ [t631]) (y642 ++ [rdOf false t614 x35_1]) l0_3 (l0_3.length:Int) (wrap64 (x35_1+1))) else (none)) else (none)) else (none))) else (none))) else (none))=some (r1,r2,r3):=by rw [if_pos rfl] at H;exact H
  clear H
  have H:=H1
  clear H1
  have c40:=yes_ H
  rw [if_pos c40] at H
  have LMc40:=aK_ c40
  clear c40
  obtain ⟨y633,hy633⟩:∃ y_:List Int,y_=(x9_1 ++ [t631]):=⟨_,rfl⟩
  replace H:((some (x10_1.take ((ji23):Int).toNat:List Int)).bind fun y636=>(if y636.length<17592186044416 then ((some (x11_1.take ((ji23):Int).toNat:List Bool)).bind fun y642=>(if 0≤x35_1 then (if x35_1<(t614.length:Int) then (if y642.length<140737488355328 then (zAG.l0 kj14 t614 y633 (y636 ++ [t631]) (y642 ++ [rdOf false t614 x35_1]) l0_3 (l0_3.length:Int) (wrap64 (x35_1+1))) else (none)) else (none)) else (none))) else (none)))=some (r1,r2,r3):=by first|(rw [hy633];with_reducible exact H)|(have H2_:=(Option.bind_some _ _).symm.trans H;rw [hy633];with_reducible exact H2_)|(have H2_:=(Option.bind_some _ _).symm.trans H;with_reducible exact H2_)|with_reducible exact H|(rw [hy633];exact H)|exact H
  have Ny633:=aK_ hy633
  clear hy633
  have c41b0:=eq_true (aD_:(ji23)≤(x10_1.length:Int))
  obtain ⟨y636,hy636⟩:∃ y_:List Int,y_=(x10_1.take ((ji23):Int).toNat):=⟨_,rfl⟩
  replace H:(if y636.length<17592186044416 then ((some (x11_1.take ((ji23):Int).toNat:List Bool)).bind fun y642=>(if 0≤x35_1 then (if x35_1<(t614.length:Int) then (if y642.length<140737488355328 then (zAG.l0 kj14 t614 y633 (y636 ++ [t631]) (y642 ++ [rdOf false t614 x35_1]) l0_3 (l0_3.length:Int) (wrap64 (x35_1+1))) else (none)) else (none)) else (none))) else (none))=some (r1,r2,r3):=by first|(rw [hy636];with_reducible exact H)|(have H2_:=(Option.bind_some _ _).symm.trans H;rw [hy636];with_reducible exact H2_)|(have H2_:=(Option.bind_some _ _).symm.trans H;with_reducible exact H2_)|with_reducible exact H|(rw [hy636];exact H)|exact H
  have Ny636:=aK_ hy636
  clear hy636
  have c42:=yes_ H
  rw [if_pos c42] at H
  have LMc42:=aK_ c42
  clear c42
  obtain ⟨y639,hy639⟩:∃ y_:List Int,y_=(y636 ++ [t631]):=⟨_,rfl⟩
  replace H:((some (x11_1.take ((ji23):Int).toNat:List Bool)).bind fun y642=>(if 0≤x35_1 then (if x35_1<(t614.length:Int) then (if y642.length<140737488355328 then (zAG.l0 kj14 t614 y633 y639 (y642 ++ [rdOf false t614 x35_1]) l0_3 (l0_3.length:Int) (wrap64 (x35_1+1))) else (none)) else (none)) else (none)))=some (r1,r2,r3):=by first|(rw [hy639];with_reducible exact H)|(have H2_:=(Option.bind_some _ _).symm.trans H;rw [hy639];with_reducible exact H2_)|(have H2_:=(Option.bind_some _ _).symm.trans H;with_reducible exact H2_)|with_reducible exact H|(rw [hy639];exact H)|exact H
  have Ny639:=aK_ hy639
  clear hy639
  have c43b0:=eq_true (aD_:(ji23)≤(x11_1.length:Int))
  obtain ⟨y642,hy642⟩:∃ y_:List Bool,y_=(x11_1.take ((ji23):Int).toNat):=⟨_,rfl⟩
  replace H:(if 0≤x35_1 then (if x35_1<(t614.length:Int) then (if y642.length<140737488355328 then (zAG.l0 kj14 t614 y633 y639 (y642 ++ [rdOf false t614 x35_1]) l0_3 (l0_3.length:Int) (wrap64 (x35_1+1))) else (none)) else (none)) else (none))=some (r1,r2,r3):=by first|(rw [hy642];with_reducible exact H)|(have H2_:=(Option.bind_some _ _).symm.trans H;rw [hy642];with_reducible exact H2_)|(have H2_:=(Option.bind_some _ _).symm.trans H;with_reducible exact H2_)|with_reducible exact H|(rw [hy642];exact H)|exact H
  have Ny642:=aK_ hy642
  clear hy642
  have c44:=yes_ H
  rw [if_pos c44] at H
  have c44b0:decide (0≤x35_1)=true:=decide_eq_true c44
  clear c44
  have c45:=yes_ H
  rw [if_pos c45] at H
  have c45b0:decide (x35_1<(t614.length:Int))=true:=decide_eq_true c45
  (try (have c45z0:=c45b0;simp only [hl619_4] at c45z0))
  clear c45
  have c46:=yes_ H
  rw [if_pos c46] at H
  have LMc46:=aK_ c46
  clear c46
  obtain ⟨y646,hy646⟩:∃ y_:List Bool,y_=(y642 ++ [rdOf false t614 x35_1]):=⟨_,rfl⟩
  replace H:(zAG.l0 kj14 t614 y633 y639 y646 l0_3 (l0_3.length:Int) (wrap64 (x35_1+1)))=some (r1,r2,r3):=by first|(rw [hy646];with_reducible exact H)|(have H2_:=(Option.bind_some _ _).symm.trans H;rw [hy646];with_reducible exact H2_)|(have H2_:=(Option.bind_some _ _).symm.trans H;with_reducible exact H2_)|with_reducible exact H|(rw [hy646];exact H)|exact H
  have Ny646:=aK_ hy646
  clear hy646
  have H':=aK_ H
  clear H
  obtain ⟨Ao47,co47,eo47⟩:=Kd.R_slice HO_10.out
  subst eo47
  try go_wp2
  have n0_:=aK_ (Kd.R_drew HO_7.out)
  have n1_:=aK_ (Kd.R_drew HO_9.out)
  have n2_:=aK_ (Kd.R_drew HO_10.out)
  have n3_:=aK_ (Kd.R_drew HO_11.out)
  have n4_:=aK_ (blk_drew BK611.out)
  have n5_:=aK_ (blk_drew BK620.out)
  have n6_:=aK_ (below_drew1 HB.out)
  clear HO_7
  clear HO_9
  clear HO_10
  clear HO_11
  clear BK611
  clear BK620
  clear HB
  have HO_7:=n0_
  have HO_9:=n1_
  have HO_10:=n2_
  have HO_11:=n3_
  have BK611:=n4_
  have BK620:=n5_
  have HB:=n6_
  clear n0_ n1_ n2_ n3_ n4_ n5_ n6_
  have q49:((ji23):Int)≤((x10_1.length:Int):Int):=aD_
  obtain ⟨i049,hi049,_,hsz49,_⟩:=info_parts info3
  have hroom49:x10_1.length≤co47:=(Kd.R_reads' HO_10.out).2.1
  have hC49:Kd.C (Kd.int .i64) _ Ao47 x10_1.length x10_1:=(Kd.R_reads' HO_10.out).2.2
  have q049:(0:Int)≤((ji23):Int):=aD_
  have hcut49:=cut_from (P:=Tryd.prog) 36 3 .i64 Tryd.underlying36 hi049 1 hsz49 Ao47 x10_1.length co47 (ji23) q049 q49
  have hr49:=Kd.C_drop (m:=((ji23):Int).toNat) (c:=co47) hC49 (by omega) hroom49
  obtain ⟨A49,hA49⟩:∃ A1,A1=(if co47=((ji23):Int).toNat then Ao47 else (Ao47:Option Addr).map (·.add (((ji23):Int).toNat * 1))):=⟨_,rfl⟩
  obtain ⟨c49,hc49⟩:∃ c1,c1=co47 - ((ji23):Int).toNat:=⟨_,rfl⟩
  have hy49:y623.length=x10_1.length - ((ji23):Int).toNat:=(by rw [Ny623.out,List.length_drop] <;> omega)
  rw [show (x10_1).drop ((ji23):Int).toNat=y623 from Ny623.out.symm] at hr49
  replace hr49:Kd.C (Kd.int .i64) _ A49 y623.length y623:=(by rw [hA49];exact hr49)
  rw [← hy49,← hA49,← hc49] at hcut49
  have HR626:=aK_ hr49
  have HC626:=aK_ (show y623.length≤c49 from by rw [hy49,hc49];exact Nat.sub_le_sub_right hroom49 _)
  clear hr49 hC49 hroom49 hi049 hsz49 hc49
  have KY49:=aK_ hy49
  have KA49:=aK_ hA49
  clear hy49 hA49
  have KL49:=aK_ (show ((ji23):Int).toNat≤x10_1.length from by omega)
  replace q49:=eq_true q49
  obtain ⟨Ao51,co51,eo51⟩:=Kd.R_slice HO_11.out
  (first|subst eo51|(injection eo51 with f1_ f2_ f3_;have f4_:=f1_.symm;have f5_:=f3_.symm;clear f1_ f2_ f3_;subst f4_;subst f5_))
  have q50:((ji23):Int)≤((x11_1.length:Int):Int):=aD_
  obtain ⟨i050,hi050,_,hsz50,_⟩:=info_parts info4
  have hroom50:x11_1.length≤co51:=(Kd.R_reads' HO_11.out).2.1
  have hC50:Kd.C Kd.bool _ Ao51 x11_1.length x11_1:=(Kd.R_reads' HO_11.out).2.2
  have q050:(0:Int)≤((ji23):Int):=aD_
  have hcut50:=cut_from (P:=Tryd.prog) 49 4 .i64 Tryd.underlying49 hi050 1 hsz50 Ao51 x11_1.length co51 (ji23) q050 q50
  have hr50:=Kd.C_drop (m:=((ji23):Int).toNat) (c:=co51) hC50 (by omega) hroom50
  obtain ⟨A50,hA50⟩:∃ A1,A1=(if co51=((ji23):Int).toNat then Ao51 else (Ao51:Option Addr).map (·.add (((ji23):Int).toNat * 1))):=⟨_,rfl⟩
  obtain ⟨c50,hc50⟩:∃ c1,c1=co51 - ((ji23):Int).toNat:=⟨_,rfl⟩
  have hy50:y627.length=x11_1.length - ((ji23):Int).toNat:=(by rw [Ny627.out,List.length_drop] <;> omega)
  rw [show (x11_1).drop ((ji23):Int).toNat=y627 from Ny627.out.symm] at hr50
  replace hr50:Kd.C Kd.bool _ A50 y627.length y627:=(by rw [hA50];exact hr50)
  rw [← hy50,← hA50,← hc50] at hcut50
  have HR630:=aK_ hr50
  have HC630:=aK_ (show y627.length≤c50 from by rw [hy50,hc50];exact Nat.sub_le_sub_right hroom50 _)
  clear hr50 hC50 hroom50 hi050 hsz50 hc50
  have KY50:=aK_ hy50
  have KA50:=aK_ hA50
  clear hy50 hA50
  have KL50:=aK_ (show ((ji23):Int).toNat≤x11_1.length from by omega)
  replace q50:=eq_true q50
  refine start_ (n:=11) (S:=fun w'=>w'.cell? ⟨gb620,0,none⟩=some (.int .i64 ((zAC l0_3 x35_1).f0))∧w'.cell? ⟨gb620,1,none⟩=some (.int .i64 ((zAC l0_3 x35_1).f1))∧w'.cell? ⟨gb620,2,none⟩=some (.int .i64 ((zAC l0_3 x35_1).f2))∧w'.cell? ⟨gb620,3,none⟩=some (.int .i64 ((zAC l0_3 x35_1).f3))∧w'.cell? ⟨gb620,4,none⟩=some (.slice A619_4 ((zAC l0_3 x35_1).f4).length c619_4)∧w'.cell? ⟨gb620,5,none⟩=some (.int .i64 ((zAC l0_3 x35_1).f5))) (ds:=[]) #[false,false,false,false,false,false,false,false,false,false,false] (by kernel_rfl) rfl rfl ⟨(zAB BK620.out 0).trans rfl,(zAB BK620.out 1).trans rfl,(zAB BK620.out 2).trans rfl,(zAB BK620.out 3).trans rfl,(zAB BK620.out 4).trans rfl,(zAB BK620.out 5).trans rfl⟩ (fun hHeld=>?_);refine with_tabW zAG.tab14 zAG.bits14 (fun HT_ HW_=>?_)
  generalize wc.drew=w48 at HO_7 HO_9 HO_10 HO_11 BK611 BK620 HB HR626 HR630 hHeld ⊢
  refine pure_ (i:=0) (N:=some 54) (v:=?_) (a':=?_) #[true,false,false,false,false,false,false,false,false,false,false] rfl rfl (any_of HT_.out (by kernel_rfl)) (fun _ _ _ h=>h) (Or.inl ⟨by rfl,?_⟩) ?_ ?_
  rotate_left
  ·intro w'
   go_simp
   with_reducible rfl
  rotate_left
  ·simp only [Act.put,List.setIfInBounds_toArray,List.set_cons_zero,List.set_cons_succ,i64_w,i32_w]
   rfl
  refine pure_ (i:=2) (N:=some 56) (v:=?_) (a':=?_) #[true,false,true,false,false,false,false,false,false,false,false] rfl rfl (any_of HT_.out (by kernel_rfl)) (fun _ _ _ h=>h) (Or.inl ⟨by rfl,?_⟩) ?_ ?_
  rotate_left
  ·intro w'
   go_simp
   with_reducible rfl
  rotate_left
  ·simp only [Act.put,List.setIfInBounds_toArray,List.set_cons_zero,List.set_cons_succ,i64_w,i32_w]
   rfl
  refine pure_ (i:=3) (N:=some 57) (v:=?_) (a':=?_) #[true,false,true,true,false,false,false,false,false,false,false] rfl rfl (any_of HT_.out (by kernel_rfl)) (fun _ _ _ h=>h) (Or.inl ⟨by rfl,?_⟩) ?_ ?_
  rotate_left
  ·intro w'
   go_simp
   with_reducible rfl
  rotate_left
  ·simp only [Act.put,List.setIfInBounds_toArray,List.set_cons_zero,List.set_cons_succ,i64_w,i32_w]
   rfl
  refine pure_ (i:=4) (N:=some 58) (v:=?_) (a':=?_) #[true,false,true,true,true,false,false,false,false,false,false] rfl rfl (any_of HT_.out (by kernel_rfl)) (fun _ _ _ h=>h) (Or.inl ⟨by rfl,?_⟩) ?_ ?_
  rotate_left
  ·intro w'
   go_simp
   with_reducible rfl
  rotate_left
  ·simp only [Act.put,List.setIfInBounds_toArray,List.set_cons_zero,List.set_cons_succ,i64_w,i32_w]
   rfl
  refine pure_ (i:=5) (N:=some 59) (v:=?_) (a':=?_) #[true,false,true,true,true,true,false,false,false,false,false] rfl rfl (any_of HT_.out (by kernel_rfl)) (fun _ _ _ h=>h) (Or.inl ⟨by rfl,?_⟩) ?_ ?_
  rotate_left
  ·intro w'
   go_simp
   with_reducible rfl
  rotate_left
  ·simp only [Act.put,List.setIfInBounds_toArray,List.set_cons_zero,List.set_cons_succ,i64_w,i32_w]
   rfl
  refine pure_ (i:=6) (N:=some 60) (v:=?_) (a':=?_) #[true,false,true,true,true,true,true,false,false,false,false] rfl rfl (any_of HT_.out (by kernel_rfl)) (fun _ _ _ h=>h) (Or.inl ⟨by rfl,?_⟩) ?_ ?_
  rotate_left
  ·intro w'
   go_simp
   with_reducible rfl
  rotate_left
  ·simp only [Act.put,List.setIfInBounds_toArray,List.set_cons_zero,List.set_cons_succ,i64_w,i32_w]
   rfl
  refine pure_ (i:=7) (N:=some 61) (v:=?_) (a':=?_) #[true,false,true,true,true,true,true,true,false,false,false] rfl rfl (any_of HT_.out (by kernel_rfl)) (fun _ _ _ h=>h) (Or.inl ⟨by rfl,?_⟩) ?_ ?_
  rotate_left
  ·intro w'
   go_simp
   with_reducible rfl
  rotate_left
  ·simp only [Act.put,List.setIfInBounds_toArray,List.set_cons_zero,List.set_cons_succ,i64_w,i32_w]
   rfl
  refine take_ (i:=1) (N:=some 55) (v:=?_) (a':=?_) #[true,true,true,true,true,true,true,true,false,false,false] rfl rfl (take_ofW HT_.out HW_.out (by kernel_rfl)) (fun _ _ _ h=>h) (Or.inl ⟨by rfl,?_⟩) hHeld ?_ ?_
  rotate_left
  ·rintro w' ⟨s0,s1,s2,s3,s4,s5⟩
   go_simp
   with_reducible rfl
  rotate_left
  ·simp only [Act.put,List.setIfInBounds_toArray,List.set_cons_zero,List.set_cons_succ,i64_w,i32_w]
   rfl
  refine pure_ (i:=8) (N:=some 62) (v:=?_) (a':=?_) #[true,true,true,true,true,true,true,true,true,false,false] rfl rfl (any_of HT_.out (by kernel_rfl)) (fun _ _ _ h=>h) (Or.inl ⟨by rfl,?_⟩) ?_ ?_
  rotate_left
  ·intro w'
   go_simp
   with_reducible rfl
  rotate_left
  ·simp only [Act.put,List.setIfInBounds_toArray,List.set_cons_zero,List.set_cons_succ,i64_w,i32_w]
   rfl
  refine one_ (i:=9) (N:=some 63) #[true,true,true,true,true,true,true,true,true,true,false] rfl rfl (one_of HT_.out (by kernel_rfl)) (by decide) (fun K hK=>?_)
  refine goesD_ 54 (num_fn (rules_range A14.out)) #[.agg #[.int .i64 ((zAC l0_3 x35_1).f0),.int .i64 ((zAC l0_3 x35_1).f1),.int .i64 ((zAC l0_3 x35_1).f2),.int .i64 ((zAC l0_3 x35_1).f3),.slice A619_4 ((zAC l0_3 x35_1).f4).length c619_4,.int .i64 ((zAC l0_3 x35_1).f5),.slice A49 y623.length c49,.slice A50 y627.length c50]] (by rfl) rfl rfl (by rfl) aM_ ?_
  with_reducible refine (units_dyn.calls kj14 t621 ((zAC l0_3 x35_1).f0) ((zAC l0_3 x35_1).f1) ((zAC l0_3 x35_1).f2) ((zAC l0_3 x35_1).f3) _ _ ((zAC l0_3 x35_1).f4) ((zAC l0_3 x35_1).f5) _ _ y623 _ _ y627 t631 _ ?side1 ?side2 ?side3 ?side4 ?side5 ?side6 A28.out).mono ?_
  (case side1=>repeat (first|exact (Kd.C_below HR619_4.out HB.out)|(with_reducible refine Kd.C_alloc ?_ _)|(with_reducible refine Kd.C_drewN ?_ _)|(with_reducible refine Kd.C_drew ?_)))
  (case side2=>exact HC619_4.out)
  (case side3=>repeat (first|exact (by repeat (first|(with_reducible exact HR626.out)|(with_reducible refine Kd.C_alloc ?_ _)|(with_reducible refine Kd.C_drewN ?_ _)|(with_reducible refine Kd.C_drew ?_)|exact HR626.out))|(with_reducible refine Kd.C_alloc ?_ _)|(with_reducible refine Kd.C_drewN ?_ _)|(with_reducible refine Kd.C_drew ?_)))
  (case side4=>exact HC626.out)
  (case side5=>repeat (first|exact (by repeat (first|(with_reducible exact HR630.out)|(with_reducible refine Kd.C_alloc ?_ _)|(with_reducible refine Kd.C_drewN ?_ _)|(with_reducible refine Kd.C_drew ?_)|exact HR630.out))|(with_reducible refine Kd.C_alloc ?_ _)|(with_reducible refine Kd.C_drewN ?_ _)|(with_reducible refine Kd.C_drew ?_)))
  (case side6=>exact HC630.out)
  rintro e w52 ⟨rfl,hb⟩
  refine ⟨_,rfl,?_⟩
  have n0_:=aK_ (Kd.R_below (aR_ HO_7.out) hb)
  have n1_:=aK_ (Kd.R_below (aR_ HO_9.out) hb)
  have n2_:=aK_ (Kd.R_below (aR_ HO_10.out) hb)
  have n3_:=aK_ (Kd.R_below (aR_ HO_11.out) hb)
  have n4_:=aK_ (zAN (g:=gb611) (o:=.cells #[.string a0_0,.slice A0_1 l0_1.length c0_1,.int .i64 a0_2,.slice (some ad619) l0_3.length c0_3] 25 (0,0)) (aB_ BK611.out) hb)
  have n5_:=aK_ (zAN (g:=gb620) (o:=.cells #[.int .i64 ((zAC l0_3 x35_1).f0),.int .i64 ((zAC l0_3 x35_1).f1),.int .i64 ((zAC l0_3 x35_1).f2),.int .i64 ((zAC l0_3 x35_1).f3),.slice A619_4 ((zAC l0_3 x35_1).f4).length c619_4,.int .i64 ((zAC l0_3 x35_1).f5)] 33 (0,0)) (aB_ BK620.out) hb)
  have n6_:=aK_ (Kd.C_below (by repeat (first|(with_reducible exact HR626.out)|(with_reducible refine Kd.C_alloc ?_ _)|(with_reducible refine Kd.C_drewN ?_ _)|(with_reducible refine Kd.C_drew ?_)|exact HR626.out)) hb)
  have n7_:=aK_ (Kd.C_below (by repeat (first|(with_reducible exact HR630.out)|(with_reducible refine Kd.C_alloc ?_ _)|(with_reducible refine Kd.C_drewN ?_ _)|(with_reducible refine Kd.C_drew ?_)|exact HR630.out)) hb)
  have n8_:=aK_ (zAH (aJ_ HB.out GE611.out GE620.out) hb)
  clear HO_7
  clear HO_9
  clear HO_10
  clear HO_11
  clear BK611
  clear BK620
  clear HR626
  clear HR630
  clear HB
  have HO_7:=n0_
  have HO_9:=n1_
  have HO_10:=n2_
  have HO_11:=n3_
  have BK611:=n4_
  have BK620:=n5_
  have HR626:=n6_
  have HR630:=n7_
  have HB:=n8_
  clear n0_ n1_ n2_ n3_ n4_ n5_ n6_ n7_ n8_
  (try clear hb)
  (try clear hb2)
  (try clear hk)
  (try clear hi)
  refine hK.out _ _ ⟨(zAB BK620.out 0).trans rfl,(zAB BK620.out 1).trans rfl,(zAB BK620.out 2).trans rfl,(zAB BK620.out 3).trans rfl,(zAB BK620.out 4).trans rfl,(zAB BK620.out 5).trans rfl⟩ (fun hHeld=>?_)
  clear hK K
  refine norm_ (a':=?_) ?_ ?_
  rotate_left
  ·show Act.put _ (some 63) _=_
   simp only [Act.put,List.setIfInBounds_toArray,List.set_cons_zero,List.set_cons_succ,i64_w,i32_w]
   rfl
  refine pure_ (i:=10) (N:=some 17) (v:=?_) (a':=?_) #[true,true,true,true,true,true,true,true,true,true,true] rfl rfl (any_of HT_.out (by kernel_rfl)) (fun _ _ _ h=>h) (Or.inl ⟨by rfl,?_⟩) ?_ ?_
  rotate_left
  ·intro w'
   go_simp
   with_reducible rfl
  rotate_left
  ·simp only [Act.put,List.setIfInBounds_toArray,List.set_cons_zero,List.set_cons_succ,i64_w,i32_w]
   rfl
  refine done_ (done_of HT_.out (by kernel_rfl)) ?_
  have hnb53:=NB620_611.out
  have hnc53:=NB611_620.out
  have hcz54_0:w52.cell? ⟨gb620,0,none⟩=some (.int .i64 ((zAC l0_3 x35_1).f0)):=(zAB BK620.out 0).trans rfl
  have hcz54_1:w52.cell? ⟨gb620,1,none⟩=some (.int .i64 ((zAC l0_3 x35_1).f1)):=(zAB BK620.out 1).trans rfl
  have hcz54_2:w52.cell? ⟨gb620,2,none⟩=some (.int .i64 ((zAC l0_3 x35_1).f2)):=(zAB BK620.out 2).trans rfl
  have hcz54_3:w52.cell? ⟨gb620,3,none⟩=some (.int .i64 ((zAC l0_3 x35_1).f3)):=(zAB BK620.out 3).trans rfl
  have hcz54_4:w52.cell? ⟨gb620,4,none⟩=some (.slice A619_4 ((zAC l0_3 x35_1).f4).length c619_4):=(zAB BK620.out 4).trans rfl
  have hcz54_5:w52.cell? ⟨gb620,5,none⟩=some (.int .i64 ((zAC l0_3 x35_1).f5)):=(zAB BK620.out 5).trans rfl
  have hfz54_0:=zAA BK620.out 0
  have hfz54_1:=zAA BK620.out 1
  have hfz54_2:=zAA BK620.out 2
  have hfz54_3:=zAA BK620.out 3
  have hfz54_4:=zAA BK620.out 4
  have hfz54_5:=zAA BK620.out 5
  have p632:0≤((ji23):Int):=aD_
  have q632:(ji23)<(x11_1.length:Int):=aD_
  obtain ⟨ad632,e632,hx632_0⟩:=Kd.at_bool (Kd.R_reads' HO_11.out).2.2 (ji23) p632 q632
  (try rw [← Nbq38.out] at hx632_0)
  cases e632
  replace p632:=eq_true p632
  replace q632:=eq_true q632
  try go_wp2_with (first|((with_reducible refine gate_builtin (b:=.append) (xs:=#[.tmp 86,.tmp 88]) rfl ?_);at_builtin;refine Kd.R_append (Kd.int .i64) (w0:=w) w.heap.size rfl (.tmp 86) (.tmp 88) 36 3 (.int .i64 0) 8 rfl Tryd.underlying36 info3 rfl (by decide) (by omega) u9 x9_1 t631 [.int .i64 t631] (fun k_=>some k_≠(.slice Ao47 x10_1.length co47:Value).ownBlock) (fun _=>False) rfl rfl ?aP (fun _ hk=>hk.elim) ?aF ?aO ?aB ?aS ?aL ?_;(case aP=>exact rfl);(case aB=>exact (aJ_ HB.out GE611.out GE620.out));(case aF=>exact (fun k_ hk=>Kd.fresh' (Kd.R_lt (aR_ HO_10.out)) k_ hk));(case aO=>exact (aR_ HO_9.out));(case aS=>exact (zAE (aJ_ HB.out GE611.out GE620.out)));(case aL=>have:=LMc40.out;omega);intro v634 w55 ho hb hg hat;rw [← Ny633.out] at ho;have n0_:=aK_ (Kd.R_over' (aR_ HO_7.out) (Kd.R_typed (aR_ HO_9.out)) (by decide) hg);have n1_:=aK_ (Kd.R_after (ok:=(fun _=>True)) (by refine aR_ ?_;exact Kd.R_mono HO_10.out (fun _ hk=>⟨trivial,by first|exact hk|exact ob_ne hk⟩)) hg hat);have n2_:=aK_ (Kd.R_over' (aR_ HO_11.out) (Kd.R_typed (aR_ HO_9.out)) (by decide) hg);have n3_:=aK_ (blk_grown (g:=gb611) (o:=.cells #[.string a0_0,.slice A0_1 l0_1.length c0_1,.int .i64 a0_2,.slice (some ad619) l0_3.length c0_3] 25 (0,0)) (aB_ BK611.out) hg (Kd.R_ne HO_9.out BK611.out (by decide)));have n4_:=aK_ (blk_grown (g:=gb620) (o:=.cells #[.int .i64 ((zAC l0_3 x35_1).f0),.int .i64 ((zAC l0_3 x35_1).f1),.int .i64 ((zAC l0_3 x35_1).f2),.int .i64 ((zAC l0_3 x35_1).f3),.slice A619_4 ((zAC l0_3 x35_1).f4).length c619_4,.int .i64 ((zAC l0_3 x35_1).f5)] 33 (0,0)) (aB_ BK620.out) hg (Kd.R_ne HO_9.out BK620.out (by decide)));have n5_:=aK_ (hb);have n6_:=aK_ ((show Kd.C (Kd.int .i64) w55 A49 y623.length y623 from by rw [Ny623.out,KA49.out];exact Kd.C_drop (m:=((ji23):Int).toNat) (c:=co47) ((Kd.R_reads' (Kd.R_after (ok:=(fun _=>True)) (by refine aR_ ?_;exact Kd.R_mono HO_10.out (fun _ hk=>⟨trivial,by first|exact hk|exact ob_ne hk⟩)) hg hat)).2.2) KL49.out ((Kd.R_reads' (Kd.R_after (ok:=(fun _=>True)) (by refine aR_ ?_;exact Kd.R_mono HO_10.out (fun _ hk=>⟨trivial,by first|exact hk|exact ob_ne hk⟩)) hg hat)).2.1)));have n7_:=aK_ ((show Kd.C Kd.bool w55 A50 y627.length y627 from by rw [Ny627.out,KA50.out];exact Kd.C_drop (m:=((ji23):Int).toNat) (c:=co51) ((Kd.R_reads' (Kd.R_over' (aR_ HO_11.out) (Kd.R_typed (aR_ HO_9.out)) (by decide) hg)).2.2) KL50.out ((Kd.R_reads' (Kd.R_over' (aR_ HO_11.out) (Kd.R_typed (aR_ HO_9.out)) (by decide) hg)).2.1)));have n8_:=aK_ (ho);clear HO_7;clear HO_10;clear HO_11;clear BK611;clear BK620;clear HB;clear HR626;clear HR630;clear HO_9;have HO_7:=n0_;have HO_10:=n1_;have HO_11:=n2_;have BK611:=n3_;have BK620:=n4_;have HB:=n5_;have HR626:=n6_;have HR630:=n7_;have HO635:=n8_;clear n0_ n1_ n2_ n3_ n4_ n5_ n6_ n7_ n8_;clear ho hb hg hat;have q56:((ji23):Int)≤((x10_1.length:Int):Int):=aD_;obtain ⟨i056,hi056,_,hsz56,_⟩:=info_parts info3;have hcut56:=cut_to (P:=Tryd.prog) 36 3 .i64 Tryd.underlying36 hi056 Ao47 x10_1.length co47 (ji23) aD_ q56 (Kd.R_reads' HO_10.out).2.1;have hr56:=Kd.R_take (m:=((ji23):Int).toNat) HO_10.out (by omega);have hy56:y636.length=((ji23):Int).toNat:=(by rw [Ny636.out,List.length_take];omega);rw [← Ny636.out] at hr56;rw [← hy56] at hr56 hcut56;clear hy56 hi056 hsz56 HO_10;have HO638:=aK_ hr56;clear hr56;replace q56:=eq_true q56)|((with_reducible refine gate_builtin (b:=.append) (xs:=#[.tmp 92,.tmp 94]) rfl ?_);at_builtin;refine Kd.R_append (Kd.int .i64) (w0:=w) w.heap.size rfl (.tmp 92) (.tmp 94) 36 3 (.int .i64 0) 8 rfl Tryd.underlying36 info3 rfl (by decide) (by omega) (.slice Ao47 y636.length co47) y636 t631 [.int .i64 t631] (fun k_=>some k_≠(v634:Value).ownBlock) (fun _=>False) rfl rfl ?aP (fun _ hk=>hk.elim) ?aF ?aO ?aB ?aS ?aL ?_;(case aP=>exact rfl);(case aB=>exact (aJ_ HB.out GE611.out GE620.out));(case aF=>exact (fun k_ hk=>Kd.fresh' (Kd.R_lt (aR_ HO635.out)) k_ hk));(case aO=>exact (by refine aR_ ?_;exact Kd.R_mono HO638.out (fun _ hk=>hk.2)));(case aS=>exact (zAE (aJ_ HB.out GE611.out GE620.out)));(case aL=>have:=LMc42.out;omega);intro v640 w57 ho hb hg hat;rw [← Ny639.out] at ho;have n0_:=aK_ (Kd.R_over' (aR_ HO_7.out) (Kd.R_typed (aR_ HO638.out)) (by decide) hg);have n1_:=aK_ (Kd.R_over' (aR_ HO_11.out) (Kd.R_typed (aR_ HO638.out)) (by decide) hg);have n2_:=aK_ (blk_grown (g:=gb611) (o:=.cells #[.string a0_0,.slice A0_1 l0_1.length c0_1,.int .i64 a0_2,.slice (some ad619) l0_3.length c0_3] 25 (0,0)) (aB_ BK611.out) hg (Kd.R_ne HO638.out BK611.out (by decide)));have n3_:=aK_ (blk_grown (g:=gb620) (o:=.cells #[.int .i64 ((zAC l0_3 x35_1).f0),.int .i64 ((zAC l0_3 x35_1).f1),.int .i64 ((zAC l0_3 x35_1).f2),.int .i64 ((zAC l0_3 x35_1).f3),.slice A619_4 ((zAC l0_3 x35_1).f4).length c619_4,.int .i64 ((zAC l0_3 x35_1).f5)] 33 (0,0)) (aB_ BK620.out) hg (Kd.R_ne HO638.out BK620.out (by decide)));have n4_:=aK_ (Kd.R_after (ok:=(fun _=>True)) (by refine aR_ ?_;exact Kd.R_mono HO635.out (fun _ hk=>⟨trivial,by first|exact hk|exact ob_ne hk⟩)) hg hat);have n5_:=aK_ (hb);have n6_:=aK_ ((show Kd.C Kd.bool w57 A50 y627.length y627 from by rw [Ny627.out,KA50.out];exact Kd.C_drop (m:=((ji23):Int).toNat) (c:=co51) ((Kd.R_reads' (Kd.R_over' (aR_ HO_11.out) (Kd.R_typed (aR_ HO638.out)) (by decide) hg)).2.2) KL50.out ((Kd.R_reads' (Kd.R_over' (aR_ HO_11.out) (Kd.R_typed (aR_ HO638.out)) (by decide) hg)).2.1)));have n7_:=aK_ (ho);clear HO_7;clear HO_11;clear BK611;clear BK620;clear HO635;clear HB;clear HR630;clear HO638;have HO_7:=n0_;have HO_11:=n1_;have BK611:=n2_;have BK620:=n3_;have HO635:=n4_;have HB:=n5_;have HR630:=n6_;have HO641:=n7_;clear n0_ n1_ n2_ n3_ n4_ n5_ n6_ n7_;clear ho hb hg hat))
  have n0_:=aK_ (Kd.R_drew HO_7.out)
  have n1_:=aK_ (Kd.R_drew HO_11.out)
  have n2_:=aK_ (Kd.R_drew HO635.out)
  have n3_:=aK_ (Kd.R_drew HO641.out)
  have n4_:=aK_ (blk_drew BK611.out)
  have n5_:=aK_ (blk_drew BK620.out)
  have n6_:=aK_ (Kd.C_drew HR630.out)
  have n7_:=aK_ (below_drew1 HB.out)
  clear HO_7
  clear HO_11
  clear HO635
  clear HO641
  clear BK611
  clear BK620
  clear HR630
  clear HB
  have HO_7:=n0_
  have HO_11:=n1_
  have HO635:=n2_
  have HO641:=n3_
  have BK611:=n4_
  have BK620:=n5_
  have HR630:=n6_
  have HB:=n7_
  clear n0_ n1_ n2_ n3_ n4_ n5_ n6_ n7_
  have q59:((ji23):Int)≤((x11_1.length:Int):Int):=aD_
  obtain ⟨i059,hi059,_,hsz59,_⟩:=info_parts info4
  have hcut59:=cut_to (P:=Tryd.prog) 49 4 .i64 Tryd.underlying49 hi059 (some ad632) x11_1.length co51 (ji23) aD_ q59 (Kd.R_reads' HO_11.out).2.1
  have hr59:=Kd.R_take (m:=((ji23):Int).toNat) HO_11.out (by omega)
  have hy59:y642.length=((ji23):Int).toNat:=(by rw [Ny642.out,List.length_take];omega)
  rw [← Ny642.out] at hr59
  rw [← hy59] at hr59 hcut59
  clear hy59 hi059 hsz59 HO_11
  have HO644:=aK_ hr59
  clear hr59
  replace q59:=eq_true q59
  obtain ⟨Ao60,co60,eo60⟩:=Kd.R_slice HO_7.out
  (first|subst eo60|(injection eo60 with f1_ f2_ f3_;have f4_:=f1_.symm;have f5_:=f3_.symm;clear f1_ f2_ f3_;subst f4_;subst f5_))
  have p645:0≤(x35_1:Int):=aD_
  have q645:x35_1<(t614.length:Int):=aD_
  obtain ⟨ad645,e645,hx645_0⟩:=Kd.at_bool (Kd.R_reads' HO_7.out).2.2 x35_1 p645 q645
  (try rw [← Nbq38.out] at hx645_0)
  cases e645
  replace p645:=eq_true p645
  replace q645:=eq_true q645
  refine start_ (n:=10) (S:=fun w'=>w'.cell? (ad645.add (x35_1).toNat)=some (.bool (rdOf false t614 x35_1))) (ds:=[7,8]) #[false,false,false,false,false,false,false,false,false,false] (by kernel_rfl) rfl rfl (hx645_0) (fun hHeld=>?_);refine with_tabW zAG.tab21 zAG.bits21 (fun HT_ HW_=>?_)
  generalize w57.drew=w58 at HO_7 HO_11 HO635 HO641 BK611 BK620 HR630 HB HO644 hx645_0 hHeld ⊢
  refine pure_ (i:=0) (N:=some 96) (v:=?_) (a':=?_) #[true,false,false,false,false,false,false,false,false,false] rfl rfl (any_of HT_.out (by kernel_rfl)) (fun _ _ _ h=>h) (Or.inl ⟨by rfl,?_⟩) ?_ ?_
  rotate_left
  ·intro w'
   go_simp
   with_reducible rfl
  rotate_left
  ·simp only [Act.put,List.setIfInBounds_toArray,List.set_cons_zero,List.set_cons_succ,i64_w,i32_w]
   rfl
  refine pure_ (i:=1) (N:=some 97) (v:=?_) (a':=?_) #[true,true,false,false,false,false,false,false,false,false] rfl rfl (any_of HT_.out (by kernel_rfl)) (fun _ _ _ h=>h) (Or.inl ⟨by rfl,?_⟩) ?_ ?_
  rotate_left
  ·intro w'
   go_simp
   with_reducible rfl
  rotate_left
  ·simp only [Act.put,List.setIfInBounds_toArray,List.set_cons_zero,List.set_cons_succ,i64_w,i32_w]
   rfl
  refine pure_ (i:=2) (N:=some 98) (v:=?_) (a':=?_) #[true,true,true,false,false,false,false,false,false,false] rfl rfl (any_of HT_.out (by kernel_rfl)) (fun _ _ _ h=>h) (Or.inl ⟨by rfl,?_⟩) ?_ ?_
  rotate_left
  ·intro w'
   go_simp
   with_reducible rfl
  rotate_left
  ·simp only [Act.put,List.setIfInBounds_toArray,List.set_cons_zero,List.set_cons_succ,i64_w,i32_w]
   rfl
  refine pure_ (i:=3) (N:=some 99) (v:=?_) (a':=?_) #[true,true,true,true,false,false,false,false,false,false] rfl rfl (any_of HT_.out (by kernel_rfl)) (fun _ _ _ h=>h) (Or.inl ⟨by rfl,?_⟩) ?_ ?_
  rotate_left
  ·intro w'
   go_simp
   with_reducible rfl
  rotate_left
  ·simp only [Act.put,List.setIfInBounds_toArray,List.set_cons_zero,List.set_cons_succ,i64_w,i32_w]
   rfl
  refine pure_ (i:=4) (N:=some 100) (v:=?_) (a':=?_) #[true,true,true,true,true,false,false,false,false,false] rfl rfl (any_of HT_.out (by kernel_rfl)) (fun _ _ _ h=>h) (Or.inl ⟨by rfl,?_⟩) ?_ ?_
  rotate_left
  ·intro w'
   go_simp
   with_reducible rfl
  rotate_left
  ·simp only [Act.put,List.setIfInBounds_toArray,List.set_cons_zero,List.set_cons_succ,i64_w,i32_w]
   rfl
  refine pure_ (i:=5) (N:=some 101) (v:=?_) (a':=?_) #[true,true,true,true,true,true,false,false,false,false] rfl rfl (any_of HT_.out (by kernel_rfl)) (fun _ _ _ h=>h) (Or.inl ⟨by rfl,?_⟩) ?_ ?_
  rotate_left
  ·intro w'
   go_simp
   with_reducible rfl
  rotate_left
  ·simp only [Act.put,List.setIfInBounds_toArray,List.set_cons_zero,List.set_cons_succ,i64_w,i32_w]
   rfl
  refine take_ (i:=6) (N:=some 102) (v:=?_) (a':=?_) #[true,true,true,true,true,true,true,false,false,false] rfl rfl (take_ofW HT_.out HW_.out (by kernel_rfl)) (fun _ _ _ h=>h) (Or.inl ⟨by rfl,?_⟩) hHeld ?_ ?_
  rotate_left
  ·intro w' s0
   go_simp
   with_reducible rfl
  rotate_left
  ·simp only [Act.put,List.setIfInBounds_toArray,List.set_cons_zero,List.set_cons_succ,i64_w,i32_w]
   rfl
  refine last_ (i:=7) (N:=some 103) #[true,true,true,true,true,true,true,true,false,false] rfl rfl (one_of HT_.out (by kernel_rfl)) (by decide) (fun K hK=>?_)
  refine value_ (w1:=?_) (v:=?_) (by rfl) rfl ?_ ?_
  rotate_left 2
  ·go_simp
   constructor
   ·rfl
   ·rfl
  refine hK.out _ _ ?_
  clear hK K
  refine norm_ (a':=?_) ?_ ?_
  rotate_left
  ·show Act.put _ (some 103) _=_
   simp only [Act.put,List.setIfInBounds_toArray,List.set_cons_zero,List.set_cons_succ,i64_w,i32_w]
   rfl
  refine last_ (i:=8) (N:=some 104) #[true,true,true,true,true,true,true,true,true,false] rfl rfl (one_of HT_.out (by kernel_rfl)) (by decide) (fun K hK=>?_)
  refine Kd.R_append_step Kd.bool (w0:=w) w.heap.size (by rfl) (.tmp 98) (.tmp 103) 49 4 (.bool false) 1 rfl Tryd.underlying49 info4 rfl (by decide) (by omega) (.slice (some ad632) y642.length co51) y642 (rdOf false t614 x35_1) [.bool (rdOf false t614 x35_1)] (fun k_=>some k_≠(.slice (some ad645) t614.length co60:Value).ownBlock) (fun _=>False) rfl rfl ?aP (fun _ hk=>hk.elim) ?aF ?aO ?aB ?aS ?aL ?_
  (case aP=>exact rfl)
  (case aB=>exact (aJ_ HB.out GE611.out GE620.out))
  (case aF=>exact (fun k_ hk=>Kd.fresh' (Kd.R_lt (aR_ HO_7.out)) k_ hk))
  (case aO=>exact (aR_ HO644.out))
  (case aS=>exact (zAE (aJ_ HB.out GE611.out GE620.out)))
  (case aL=>have:=LMc46.out;omega)
  intro v647 w61 ho hb hg hat
  rw [← Ny646.out] at ho
  have n0_:=aK_ (Kd.R_after (ok:=(fun _=>True)) (by refine aR_ ?_;exact Kd.R_mono HO_7.out (fun _ hk=>⟨trivial,by first|exact hk|exact ob_ne hk⟩)) hg hat)
  have n1_:=aK_ (blk_grown (g:=gb611) (o:=.cells #[.string a0_0,.slice A0_1 l0_1.length c0_1,.int .i64 a0_2,.slice (some ad619) l0_3.length c0_3] 25 (0,0)) (aB_ BK611.out) hg (Kd.R_ne HO644.out BK611.out (by decide)))
  have n2_:=aK_ (blk_grown (g:=gb620) (o:=.cells #[.int .i64 ((zAC l0_3 x35_1).f0),.int .i64 ((zAC l0_3 x35_1).f1),.int .i64 ((zAC l0_3 x35_1).f2),.int .i64 ((zAC l0_3 x35_1).f3),.slice A619_4 ((zAC l0_3 x35_1).f4).length c619_4,.int .i64 ((zAC l0_3 x35_1).f5)] 33 (0,0)) (aB_ BK620.out) hg (Kd.R_ne HO644.out BK620.out (by decide)))
  have n3_:=aK_ (Kd.R_over' (aR_ HO635.out) (Kd.R_typed (aR_ HO644.out)) (by decide) hg)
  have n4_:=aK_ (Kd.R_over' (aR_ HO641.out) (Kd.R_typed (aR_ HO644.out)) (by decide) hg)
  have n5_:=aK_ (hb)
  have n6_:=aK_ (ho)
  clear HO_7
  clear BK611
  clear BK620
  clear HO635
  clear HO641
  clear HB
  clear HO644
  have HO_7:=n0_
  have BK611:=n1_
  have BK620:=n2_
  have HO635:=n3_
  have HO641:=n4_
  have HB:=n5_
  have HO648:=n6_
  clear n0_ n1_ n2_ n3_ n4_ n5_ n6_
  clear ho hb hg hat
  refine hK.out _ _ ?_
  clear hK K
  refine norm_ (a':=?_) ?_ ?_
  rotate_left
  ·show Act.put _ (some 104) _=_
   simp only [Act.put,List.setIfInBounds_toArray,List.set_cons_zero,List.set_cons_succ,i64_w,i32_w]
   rfl
  refine pure_ (i:=9) (N:=some 11) (v:=?_) (a':=?_) #[true,true,true,true,true,true,true,true,true,true] rfl rfl (any_of HT_.out (by kernel_rfl)) (fun _ _ _ h=>h) (Or.inl ⟨by rfl,?_⟩) ?_ ?_
  rotate_left
  ·intro w'
   go_simp
   with_reducible rfl
  rotate_left
  ·simp only [Act.put,List.setIfInBounds_toArray,List.set_cons_zero,List.set_cons_succ,i64_w,i32_w]
   rfl
  refine done_ (done_of HT_.out (by kernel_rfl)) ?_
  try go_wp2
  go_roundg kj14
  case measure=>have:=HK1.out;have:=HJ14.out;omega
  case rel=>exact ⟨(y633),(y639),(y646),(wrap64 (x35_1+1)),aS2_,H',⟨by have:=HK1.out;have:=HJ14.out;omega⟩,⟨by refine aR_ ?_;exact Kd.R_mono HO_7.out (fun _ hk=>hk.2)⟩,⟨by refine aR_ ?_;exact Kd.R_mono HO635.out (fun _ hk=>hk.2)⟩,⟨aR_ HO641.out⟩,⟨aR_ HO648.out⟩,⟨aB_ BK611.out⟩,⟨aJ_ HB.out GE611.out GE620.out⟩⟩
 replace c39:=Bool.eq_false_iff.mpr c39
 subst c39
 have H1:(if 0≤(wrap64 ((ji23)+1)) then (if (wrap64 ((ji23)+1))<(x11_1.length:Int) then (if (rdOf false x11_1 (wrap64 ((ji23)+1))=true) then (if x9_1.length<17592186044416 then ((some (x10_1.take ((ji23):Int).toNat:List Int)).bind fun y653=>(if y653.length<17592186044416 then ((some (x11_1.take ((ji23):Int).toNat:List Bool)).bind fun y659=>(if 0≤x35_1 then (if x35_1<(t614.length:Int) then (if y659.length<140737488355328 then (zAG.l0 kj14 t614 (x9_1 ++ [t631]) (y653 ++ [t631]) (y659 ++ [rdOf false t614 x35_1]) l0_3 (l0_3.length:Int) (wrap64 (x35_1+1))) else (none)) else (none)) else (none))) else (none))) else (none)) else (some (([]:List Int),x35_1,81))) else (none)) else (none))=some (r1,r2,r3):=by rw [if_neg (show ¬ (false=true) by decide)] at H;exact H
 clear H
 have H:=H1
 clear H1
 obtain ⟨ji62,hji62⟩:∃ j_:Int,(wrap64 ((ji23)+1))=j_:=⟨_,rfl⟩
 replace H:(if 0≤(ji62) then (if (ji62)<(x11_1.length:Int) then (if (rdOf false x11_1 (ji62)=true) then (if x9_1.length<17592186044416 then ((some (x10_1.take ((ji23):Int).toNat:List Int)).bind fun y653=>(if y653.length<17592186044416 then ((some (x11_1.take ((ji23):Int).toNat:List Bool)).bind fun y659=>(if 0≤x35_1 then (if x35_1<(t614.length:Int) then (if y659.length<140737488355328 then (zAG.l0 kj14 t614 (x9_1 ++ [t631]) (y653 ++ [t631]) (y659 ++ [rdOf false t614 x35_1]) l0_3 (l0_3.length:Int) (wrap64 (x35_1+1))) else (none)) else (none)) else (none))) else (none))) else (none)) else (some (([]:List Int),x35_1,81))) else (none)) else (none))=some (r1,r2,r3):=by first|(rw [hji62] at H;exact H)|(simp only [hji62] at H ⊢;exact H)
 (try rw [hji62] at A28)
 have hji62w:(IntKind.i64.wrap ((ji23)+1))=ji62:=(i64_w _).trans hji62
 have c63:=yes_ H
 rw [if_pos c63] at H
 have c63b0:decide (0≤(ji62))=true:=decide_eq_true c63
 clear c63
 have c64:=yes_ H
 rw [if_pos c64] at H
 have c64b0:decide ((ji62)<(x11_1.length:Int))=true:=decide_eq_true c64
 clear c64
 obtain ⟨bq65,hbq65⟩:∃ b_:Bool,b_=(rdOf false x11_1 (ji62)):=⟨_,rfl⟩
 replace H:(if (bq65=true) then (if x9_1.length<17592186044416 then ((some (x10_1.take ((ji23):Int).toNat:List Int)).bind fun y653=>(if y653.length<17592186044416 then ((some (x11_1.take ((ji23):Int).toNat:List Bool)).bind fun y659=>(if 0≤x35_1 then (if x35_1<(t614.length:Int) then (if y659.length<140737488355328 then (zAG.l0 kj14 t614 (x9_1 ++ [t631]) (y653 ++ [t631]) (y659 ++ [rdOf false t614 x35_1]) l0_3 (l0_3.length:Int) (wrap64 (x35_1+1))) else (none)) else (none)) else (none))) else (none))) else (none)) else (some (([]:List Int),x35_1,81)))=some (r1,r2,r3):=by rw [← hbq65] at H;exact H
 have Nbq65:=aK_ hbq65
 clear hbq65
 by_cases c66:(bq65=true)
 rotate_left
 ·replace c66:=Bool.eq_false_iff.mpr c66
  subst c66
  have H1:(some (([]:List Int),x35_1,81))=some (r1,r2,r3):=by rw [if_neg (show ¬ (false=true) by decide)] at H;exact H
  clear H
  have H:=H1
  clear H1
  simp only [Option.some.injEq,Prod.mk.injEq] at H
  obtain ⟨rfl,rfl,rfl⟩:=H
  obtain ⟨Ao89,co89,eo89⟩:=Kd.R_slice HO_10.out
  subst eo89
  try go_wp2
  have n0_:=aK_ (Kd.R_drew HO_7.out)
  have n1_:=aK_ (Kd.R_drew HO_9.out)
  have n2_:=aK_ (Kd.R_drew HO_10.out)
  have n3_:=aK_ (Kd.R_drew HO_11.out)
  have n4_:=aK_ (blk_drew BK611.out)
  have n5_:=aK_ (blk_drew BK620.out)
  have n6_:=aK_ (below_drew1 HB.out)
  clear HO_7
  clear HO_9
  clear HO_10
  clear HO_11
  clear BK611
  clear BK620
  clear HB
  have HO_7:=n0_
  have HO_9:=n1_
  have HO_10:=n2_
  have HO_11:=n3_
  have BK611:=n4_
  have BK620:=n5_
  have HB:=n6_
  clear n0_ n1_ n2_ n3_ n4_ n5_ n6_
  have q91:((ji23):Int)≤((x10_1.length:Int):Int):=aD_
  obtain ⟨i091,hi091,_,hsz91,_⟩:=info_parts info3
  have hroom91:x10_1.length≤co89:=(Kd.R_reads' HO_10.out).2.1
  have hC91:Kd.C (Kd.int .i64) _ Ao89 x10_1.length x10_1:=(Kd.R_reads' HO_10.out).2.2
  have q091:(0:Int)≤((ji23):Int):=aD_
  have hcut91:=cut_from (P:=Tryd.prog) 36 3 .i64 Tryd.underlying36 hi091 1 hsz91 Ao89 x10_1.length co89 (ji23) q091 q91
  have hr91:=Kd.C_drop (m:=((ji23):Int).toNat) (c:=co89) hC91 (by omega) hroom91
  obtain ⟨A91,hA91⟩:∃ A1,A1=(if co89=((ji23):Int).toNat then Ao89 else (Ao89:Option Addr).map (·.add (((ji23):Int).toNat * 1))):=⟨_,rfl⟩
  obtain ⟨c91,hc91⟩:∃ c1,c1=co89 - ((ji23):Int).toNat:=⟨_,rfl⟩
  have hy91:y623.length=x10_1.length - ((ji23):Int).toNat:=(by rw [Ny623.out,List.length_drop] <;> omega)
  rw [show (x10_1).drop ((ji23):Int).toNat=y623 from Ny623.out.symm] at hr91
  replace hr91:Kd.C (Kd.int .i64) _ A91 y623.length y623:=(by rw [hA91];exact hr91)
  rw [← hy91,← hA91,← hc91] at hcut91
  have HR626:=aK_ hr91
  have HC626:=aK_ (show y623.length≤c91 from by rw [hy91,hc91];exact Nat.sub_le_sub_right hroom91 _)
  clear hr91 hC91 hroom91 hi091 hsz91 hc91
  have KY91:=aK_ hy91
  have KA91:=aK_ hA91
  clear hy91 hA91
  have KL91:=aK_ (show ((ji23):Int).toNat≤x10_1.length from by omega)
  replace q91:=eq_true q91
  obtain ⟨Ao93,co93,eo93⟩:=Kd.R_slice HO_11.out
  (first|subst eo93|(injection eo93 with f1_ f2_ f3_;have f4_:=f1_.symm;have f5_:=f3_.symm;clear f1_ f2_ f3_;subst f4_;subst f5_))
  have q92:((ji23):Int)≤((x11_1.length:Int):Int):=aD_
  obtain ⟨i092,hi092,_,hsz92,_⟩:=info_parts info4
  have hroom92:x11_1.length≤co93:=(Kd.R_reads' HO_11.out).2.1
  have hC92:Kd.C Kd.bool _ Ao93 x11_1.length x11_1:=(Kd.R_reads' HO_11.out).2.2
  have q092:(0:Int)≤((ji23):Int):=aD_
  have hcut92:=cut_from (P:=Tryd.prog) 49 4 .i64 Tryd.underlying49 hi092 1 hsz92 Ao93 x11_1.length co93 (ji23) q092 q92
  have hr92:=Kd.C_drop (m:=((ji23):Int).toNat) (c:=co93) hC92 (by omega) hroom92
  obtain ⟨A92,hA92⟩:∃ A1,A1=(if co93=((ji23):Int).toNat then Ao93 else (Ao93:Option Addr).map (·.add (((ji23):Int).toNat * 1))):=⟨_,rfl⟩
  obtain ⟨c92,hc92⟩:∃ c1,c1=co93 - ((ji23):Int).toNat:=⟨_,rfl⟩
  have hy92:y627.length=x11_1.length - ((ji23):Int).toNat:=(by rw [Ny627.out,List.length_drop] <;> omega)
  rw [show (x11_1).drop ((ji23):Int).toNat=y627 from Ny627.out.symm] at hr92
  replace hr92:Kd.C Kd.bool _ A92 y627.length y627:=(by rw [hA92];exact hr92)
  rw [← hy92,← hA92,← hc92] at hcut92
  have HR630:=aK_ hr92
  have HC630:=aK_ (show y627.length≤c92 from by rw [hy92,hc92];exact Nat.sub_le_sub_right hroom92 _)
  clear hr92 hC92 hroom92 hi092 hsz92 hc92
  have KY92:=aK_ hy92
  have KA92:=aK_ hA92
  clear hy92 hA92
  have KL92:=aK_ (show ((ji23):Int).toNat≤x11_1.length from by omega)
  replace q92:=eq_true q92
  refine start_ (n:=11) (S:=fun w'=>w'.cell? ⟨gb620,0,none⟩=some (.int .i64 ((zAC l0_3 x35_1).f0))∧w'.cell? ⟨gb620,1,none⟩=some (.int .i64 ((zAC l0_3 x35_1).f1))∧w'.cell? ⟨gb620,2,none⟩=some (.int .i64 ((zAC l0_3 x35_1).f2))∧w'.cell? ⟨gb620,3,none⟩=some (.int .i64 ((zAC l0_3 x35_1).f3))∧w'.cell? ⟨gb620,4,none⟩=some (.slice A619_4 ((zAC l0_3 x35_1).f4).length c619_4)∧w'.cell? ⟨gb620,5,none⟩=some (.int .i64 ((zAC l0_3 x35_1).f5))) (ds:=[]) #[false,false,false,false,false,false,false,false,false,false,false] (by kernel_rfl) rfl rfl ⟨(zAB BK620.out 0).trans rfl,(zAB BK620.out 1).trans rfl,(zAB BK620.out 2).trans rfl,(zAB BK620.out 3).trans rfl,(zAB BK620.out 4).trans rfl,(zAB BK620.out 5).trans rfl⟩ (fun hHeld=>?_);refine with_tabW zAG.tab14 zAG.bits14 (fun HT_ HW_=>?_)
  generalize wc.drew=w90 at HO_7 HO_9 HO_10 HO_11 BK611 BK620 HB HR626 HR630 hHeld ⊢
  refine pure_ (i:=0) (N:=some 54) (v:=?_) (a':=?_) #[true,false,false,false,false,false,false,false,false,false,false] rfl rfl (any_of HT_.out (by kernel_rfl)) (fun _ _ _ h=>h) (Or.inl ⟨by rfl,?_⟩) ?_ ?_
  rotate_left
  ·intro w'
   go_simp
   with_reducible rfl
  rotate_left
  ·simp only [Act.put,List.setIfInBounds_toArray,List.set_cons_zero,List.set_cons_succ,i64_w,i32_w]
   rfl
  refine pure_ (i:=2) (N:=some 56) (v:=?_) (a':=?_) #[true,false,true,false,false,false,false,false,false,false,false] rfl rfl (any_of HT_.out (by kernel_rfl)) (fun _ _ _ h=>h) (Or.inl ⟨by rfl,?_⟩) ?_ ?_
  rotate_left
  ·intro w'
   go_simp
   with_reducible rfl
  rotate_left
  ·simp only [Act.put,List.setIfInBounds_toArray,List.set_cons_zero,List.set_cons_succ,i64_w,i32_w]
   rfl
  refine pure_ (i:=3) (N:=some 57) (v:=?_) (a':=?_) #[true,false,true,true,false,false,false,false,false,false,false] rfl rfl (any_of HT_.out (by kernel_rfl)) (fun _ _ _ h=>h) (Or.inl ⟨by rfl,?_⟩) ?_ ?_
  rotate_left
  ·intro w'
   go_simp
   with_reducible rfl
  rotate_left
  ·simp only [Act.put,List.setIfInBounds_toArray,List.set_cons_zero,List.set_cons_succ,i64_w,i32_w]
   rfl
  refine pure_ (i:=4) (N:=some 58) (v:=?_) (a':=?_) #[true,false,true,true,true,false,false,false,false,false,false] rfl rfl (any_of HT_.out (by kernel_rfl)) (fun _ _ _ h=>h) (Or.inl ⟨by rfl,?_⟩) ?_ ?_
  rotate_left
  ·intro w'
   go_simp
   with_reducible rfl
  rotate_left
  ·simp only [Act.put,List.setIfInBounds_toArray,List.set_cons_zero,List.set_cons_succ,i64_w,i32_w]
   rfl
  refine pure_ (i:=5) (N:=some 59) (v:=?_) (a':=?_) #[true,false,true,true,true,true,false,false,false,false,false] rfl rfl (any_of HT_.out (by kernel_rfl)) (fun _ _ _ h=>h) (Or.inl ⟨by rfl,?_⟩) ?_ ?_
  rotate_left
  ·intro w'
   go_simp
   with_reducible rfl
  rotate_left
  ·simp only [Act.put,List.setIfInBounds_toArray,List.set_cons_zero,List.set_cons_succ,i64_w,i32_w]
   rfl
  refine pure_ (i:=6) (N:=some 60) (v:=?_) (a':=?_) #[true,false,true,true,true,true,true,false,false,false,false] rfl rfl (any_of HT_.out (by kernel_rfl)) (fun _ _ _ h=>h) (Or.inl ⟨by rfl,?_⟩) ?_ ?_
  rotate_left
  ·intro w'
   go_simp
   with_reducible rfl
  rotate_left
  ·simp only [Act.put,List.setIfInBounds_toArray,List.set_cons_zero,List.set_cons_succ,i64_w,i32_w]
   rfl
  refine pure_ (i:=7) (N:=some 61) (v:=?_) (a':=?_) #[true,false,true,true,true,true,true,true,false,false,false] rfl rfl (any_of HT_.out (by kernel_rfl)) (fun _ _ _ h=>h) (Or.inl ⟨by rfl,?_⟩) ?_ ?_
  rotate_left
  ·intro w'
   go_simp
   with_reducible rfl
  rotate_left
  ·simp only [Act.put,List.setIfInBounds_toArray,List.set_cons_zero,List.set_cons_succ,i64_w,i32_w]
   rfl
  refine take_ (i:=1) (N:=some 55) (v:=?_) (a':=?_) #[true,true,true,true,true,true,true,true,false,false,false] rfl rfl (take_ofW HT_.out HW_.out (by kernel_rfl)) (fun _ _ _ h=>h) (Or.inl ⟨by rfl,?_⟩) hHeld ?_ ?_
  rotate_left
  ·rintro w' ⟨s0,s1,s2,s3,s4,s5⟩
   go_simp
   with_reducible rfl
  rotate_left
  ·simp only [Act.put,List.setIfInBounds_toArray,List.set_cons_zero,List.set_cons_succ,i64_w,i32_w]
   rfl
  refine pure_ (i:=8) (N:=some 62) (v:=?_) (a':=?_) #[true,true,true,true,true,true,true,true,true,false,false] rfl rfl (any_of HT_.out (by kernel_rfl)) (fun _ _ _ h=>h) (Or.inl ⟨by rfl,?_⟩) ?_ ?_
  rotate_left
  ·intro w'
   go_simp
   with_reducible rfl
  rotate_left
  ·simp only [Act.put,List.setIfInBounds_toArray,List.set_cons_zero,List.set_cons_succ,i64_w,i32_w]
   rfl
  refine one_ (i:=9) (N:=some 63) #[true,true,true,true,true,true,true,true,true,true,false] rfl rfl (one_of HT_.out (by kernel_rfl)) (by decide) (fun K hK=>?_)
  refine goesD_ 54 (num_fn (rules_range A14.out)) #[.agg #[.int .i64 ((zAC l0_3 x35_1).f0),.int .i64 ((zAC l0_3 x35_1).f1),.int .i64 ((zAC l0_3 x35_1).f2),.int .i64 ((zAC l0_3 x35_1).f3),.slice A619_4 ((zAC l0_3 x35_1).f4).length c619_4,.int .i64 ((zAC l0_3 x35_1).f5),.slice A91 y623.length c91,.slice A92 y627.length c92]] (by rfl) rfl rfl (by rfl) aM_ ?_
  with_reducible refine (units_dyn.calls kj14 t621 ((zAC l0_3 x35_1).f0) ((zAC l0_3 x35_1).f1) ((zAC l0_3 x35_1).f2) ((zAC l0_3 x35_1).f3) _ _ ((zAC l0_3 x35_1).f4) ((zAC l0_3 x35_1).f5) _ _ y623 _ _ y627 t631 _ ?side1 ?side2 ?side3 ?side4 ?side5 ?side6 A28.out).mono ?_
  (case side1=>repeat (first|exact (Kd.C_below HR619_4.out HB.out)|(with_reducible refine Kd.C_alloc ?_ _)|(with_reducible refine Kd.C_drewN ?_ _)|(with_reducible refine Kd.C_drew ?_)))
  (case side2=>exact HC619_4.out)
  (case side3=>repeat (first|exact (by repeat (first|(with_reducible exact HR626.out)|(with_reducible refine Kd.C_alloc ?_ _)|(with_reducible refine Kd.C_drewN ?_ _)|(with_reducible refine Kd.C_drew ?_)|exact HR626.out))|(with_reducible refine Kd.C_alloc ?_ _)|(with_reducible refine Kd.C_drewN ?_ _)|(with_reducible refine Kd.C_drew ?_)))
  (case side4=>exact HC626.out)
  (case side5=>repeat (first|exact (by repeat (first|(with_reducible exact HR630.out)|(with_reducible refine Kd.C_alloc ?_ _)|(with_reducible refine Kd.C_drewN ?_ _)|(with_reducible refine Kd.C_drew ?_)|exact HR630.out))|(with_reducible refine Kd.C_alloc ?_ _)|(with_reducible refine Kd.C_drewN ?_ _)|(with_reducible refine Kd.C_drew ?_)))
  (case side6=>exact HC630.out)
  rintro e w94 ⟨rfl,hb⟩
  refine ⟨_,rfl,?_⟩
  have n0_:=aK_ (Kd.R_below (aR_ HO_7.out) hb)
  have n1_:=aK_ (Kd.R_below (aR_ HO_9.out) hb)
  have n2_:=aK_ (Kd.R_below (aR_ HO_10.out) hb)
  have n3_:=aK_ (Kd.R_below (aR_ HO_11.out) hb)
  have n4_:=aK_ (zAN (g:=gb611) (o:=.cells #[.string a0_0,.slice A0_1 l0_1.length c0_1,.int .i64 a0_2,.slice (some ad619) l0_3.length c0_3] 25 (0,0)) (aB_ BK611.out) hb)
  have n5_:=aK_ (zAN (g:=gb620) (o:=.cells #[.int .i64 ((zAC l0_3 x35_1).f0),.int .i64 ((zAC l0_3 x35_1).f1),.int .i64 ((zAC l0_3 x35_1).f2),.int .i64 ((zAC l0_3 x35_1).f3),.slice A619_4 ((zAC l0_3 x35_1).f4).length c619_4,.int .i64 ((zAC l0_3 x35_1).f5)] 33 (0,0)) (aB_ BK620.out) hb)
  have n6_:=aK_ (Kd.C_below (by repeat (first|(with_reducible exact HR626.out)|(with_reducible refine Kd.C_alloc ?_ _)|(with_reducible refine Kd.C_drewN ?_ _)|(with_reducible refine Kd.C_drew ?_)|exact HR626.out)) hb)
  have n7_:=aK_ (Kd.C_below (by repeat (first|(with_reducible exact HR630.out)|(with_reducible refine Kd.C_alloc ?_ _)|(with_reducible refine Kd.C_drewN ?_ _)|(with_reducible refine Kd.C_drew ?_)|exact HR630.out)) hb)
  have n8_:=aK_ (zAH (aJ_ HB.out GE611.out GE620.out) hb)
  clear HO_7
  clear HO_9
  clear HO_10
  clear HO_11
  clear BK611
  clear BK620
  clear HR626
  clear HR630
  clear HB
  have HO_7:=n0_
  have HO_9:=n1_
  have HO_10:=n2_
  have HO_11:=n3_
  have BK611:=n4_
  have BK620:=n5_
  have HR626:=n6_
  have HR630:=n7_
  have HB:=n8_
  clear n0_ n1_ n2_ n3_ n4_ n5_ n6_ n7_ n8_
  (try clear hb)
  (try clear hb2)
  (try clear hk)
  (try clear hi)
  refine hK.out _ _ ⟨(zAB BK620.out 0).trans rfl,(zAB BK620.out 1).trans rfl,(zAB BK620.out 2).trans rfl,(zAB BK620.out 3).trans rfl,(zAB BK620.out 4).trans rfl,(zAB BK620.out 5).trans rfl⟩ (fun hHeld=>?_)
  clear hK K
  refine norm_ (a':=?_) ?_ ?_
  rotate_left
  ·show Act.put _ (some 63) _=_
   simp only [Act.put,List.setIfInBounds_toArray,List.set_cons_zero,List.set_cons_succ,i64_w,i32_w]
   rfl
  refine pure_ (i:=10) (N:=some 17) (v:=?_) (a':=?_) #[true,true,true,true,true,true,true,true,true,true,true] rfl rfl (any_of HT_.out (by kernel_rfl)) (fun _ _ _ h=>h) (Or.inl ⟨by rfl,?_⟩) ?_ ?_
  rotate_left
  ·intro w'
   go_simp
   with_reducible rfl
  rotate_left
  ·simp only [Act.put,List.setIfInBounds_toArray,List.set_cons_zero,List.set_cons_succ,i64_w,i32_w]
   rfl
  refine done_ (done_of HT_.out (by kernel_rfl)) ?_
  have hnb95:=NB620_611.out
  have hnc95:=NB611_620.out
  have hcz96_0:w94.cell? ⟨gb620,0,none⟩=some (.int .i64 ((zAC l0_3 x35_1).f0)):=(zAB BK620.out 0).trans rfl
  have hcz96_1:w94.cell? ⟨gb620,1,none⟩=some (.int .i64 ((zAC l0_3 x35_1).f1)):=(zAB BK620.out 1).trans rfl
  have hcz96_2:w94.cell? ⟨gb620,2,none⟩=some (.int .i64 ((zAC l0_3 x35_1).f2)):=(zAB BK620.out 2).trans rfl
  have hcz96_3:w94.cell? ⟨gb620,3,none⟩=some (.int .i64 ((zAC l0_3 x35_1).f3)):=(zAB BK620.out 3).trans rfl
  have hcz96_4:w94.cell? ⟨gb620,4,none⟩=some (.slice A619_4 ((zAC l0_3 x35_1).f4).length c619_4):=(zAB BK620.out 4).trans rfl
  have hcz96_5:w94.cell? ⟨gb620,5,none⟩=some (.int .i64 ((zAC l0_3 x35_1).f5)):=(zAB BK620.out 5).trans rfl
  have hfz96_0:=zAA BK620.out 0
  have hfz96_1:=zAA BK620.out 1
  have hfz96_2:=zAA BK620.out 2
  have hfz96_3:=zAA BK620.out 3
  have hfz96_4:=zAA BK620.out 4
  have hfz96_5:=zAA BK620.out 5
  have p632:0≤((ji23):Int):=aD_
  have q632:(ji23)<(x11_1.length:Int):=aD_
  obtain ⟨ad632,e632,hx632_0⟩:=Kd.at_bool (Kd.R_reads' HO_11.out).2.2 (ji23) p632 q632
  (try rw [← Nbq38.out] at hx632_0)
  (try rw [← Nbq65.out] at hx632_0)
  cases e632
  replace p632:=eq_true p632
  replace q632:=eq_true q632
  have p649:0≤((ji62):Int):=aD_
  have q649:(ji62)<(x11_1.length:Int):=aD_
  obtain ⟨ad649,e649,hx649_0⟩:=Kd.at_bool (Kd.R_reads' HO_11.out).2.2 (ji62) p649 q649
  (try rw [← Nbq38.out] at hx649_0)
  (try rw [← Nbq65.out] at hx649_0)
  obtain rfl:ad632=ad649:=(by injection e649)
  replace p649:=eq_true p649
  replace q649:=eq_true q649
  try go_wp2
  go_ret3
  exact ⟨_,by first|rfl|(simp [zAL,zAK] <;> rfl)|(simp only [← hji23,← hji62];first|rfl|(simp [zAL,zAK] <;> rfl))|(simp [*,zAL,zAK] <;> rfl),by first|exact Kd.R_nil _ _ _ _ _|exact Kd.N_nil _ _ _ _ _|exact Kd.V_nil _ _ _ _ _|exact Kd.Q_nil _ _ _ _ _|exact Kd.S_nil _ _ _ _ _,aJ_ HB.out GE611.out GE620.out⟩
 subst c66
 have H1:(if x9_1.length<17592186044416 then ((some (x10_1.take ((ji23):Int).toNat:List Int)).bind fun y653=>(if y653.length<17592186044416 then ((some (x11_1.take ((ji23):Int).toNat:List Bool)).bind fun y659=>(if 0≤x35_1 then (if x35_1<(t614.length:Int) then (if y659.length<140737488355328 then (zAG.l0 kj14 t614 (x9_1 ++ [t631]) (y653 ++ [t631]) (y659 ++ [rdOf false t614 x35_1]) l0_3 (l0_3.length:Int) (wrap64 (x35_1+1))) else (none)) else (none)) else (none))) else (none))) else (none))=some (r1,r2,r3):=by rw [if_pos rfl] at H;exact H
 clear H
 have H:=H1
 clear H1
 have c67:=yes_ H
 rw [if_pos c67] at H
 have LMc67:=aK_ c67
 clear c67
 obtain ⟨y650,hy650⟩:∃ y_:List Int,y_=(x9_1 ++ [t631]):=⟨_,rfl⟩
 replace H:((some (x10_1.take ((ji23):Int).toNat:List Int)).bind fun y653=>(if y653.length<17592186044416 then ((some (x11_1.take ((ji23):Int).toNat:List Bool)).bind fun y659=>(if 0≤x35_1 then (if x35_1<(t614.length:Int) then (if y659.length<140737488355328 then (zAG.l0 kj14 t614 y650 (y653 ++ [t631]) (y659 ++ [rdOf false t614 x35_1]) l0_3 (l0_3.length:Int) (wrap64 (x35_1+1))) else (none)) else (none)) else (none))) else (none)))=some (r1,r2,r3):=by first|(rw [hy650];with_reducible exact H)|(have H2_:=(Option.bind_some _ _).symm.trans H;rw [hy650];with_reducible exact H2_)|(have H2_:=(Option.bind_some _ _).symm.trans H;with_reducible exact H2_)|with_reducible exact H|(rw [hy650];exact H)|exact H
 have Ny650:=aK_ hy650
 clear hy650
 have c68b0:=eq_true (aD_:(ji23)≤(x10_1.length:Int))
 obtain ⟨y653,hy653⟩:∃ y_:List Int,y_=(x10_1.take ((ji23):Int).toNat):=⟨_,rfl⟩
 replace H:(if y653.length<17592186044416 then ((some (x11_1.take ((ji23):Int).toNat:List Bool)).bind fun y659=>(if 0≤x35_1 then (if x35_1<(t614.length:Int) then (if y659.length<140737488355328 then (zAG.l0 kj14 t614 y650 (y653 ++ [t631]) (y659 ++ [rdOf false t614 x35_1]) l0_3 (l0_3.length:Int) (wrap64 (x35_1+1))) else (none)) else (none)) else (none))) else (none))=some (r1,r2,r3):=by first|(rw [hy653];with_reducible exact H)|(have H2_:=(Option.bind_some _ _).symm.trans H;rw [hy653];with_reducible exact H2_)|(have H2_:=(Option.bind_some _ _).symm.trans H;with_reducible exact H2_)|with_reducible exact H|(rw [hy653];exact H)|exact H
 have Ny653:=aK_ hy653
 clear hy653
 have c69:=yes_ H
 rw [if_pos c69] at H
 have LMc69:=aK_ c69
 clear c69
 obtain ⟨y656,hy656⟩:∃ y_:List Int,y_=(y653 ++ [t631]):=⟨_,rfl⟩
 replace H:((some (x11_1.take ((ji23):Int).toNat:List Bool)).bind fun y659=>(if 0≤x35_1 then (if x35_1<(t614.length:Int) then (if y659.length<140737488355328 then (zAG.l0 kj14 t614 y650 y656 (y659 ++ [rdOf false t614 x35_1]) l0_3 (l0_3.length:Int) (wrap64 (x35_1+1))) else (none)) else (none)) else (none)))=some (r1,r2,r3):=by first|(rw [hy656];with_reducible exact H)|(have H2_:=(Option.bind_some _ _).symm.trans H;rw [hy656];with_reducible exact H2_)|(have H2_:=(Option.bind_some _ _).symm.trans H;with_reducible exact H2_)|with_reducible exact H|(rw [hy656];exact H)|exact H
 have Ny656:=aK_ hy656
 clear hy656
 have c70b0:=eq_true (aD_:(ji23)≤(x11_1.length:Int))
 obtain ⟨y659,hy659⟩:∃ y_:List Bool,y_=(x11_1.take ((ji23):Int).toNat):=⟨_,rfl⟩
 replace H:(if 0≤x35_1 then (if x35_1<(t614.length:Int) then (if y659.length<140737488355328 then (zAG.l0 kj14 t614 y650 y656 (y659 ++ [rdOf false t614 x35_1]) l0_3 (l0_3.length:Int) (wrap64 (x35_1+1))) else (none)) else (none)) else (none))=some (r1,r2,r3):=by first|(rw [hy659];with_reducible exact H)|(have H2_:=(Option.bind_some _ _).symm.trans H;rw [hy659];with_reducible exact H2_)|(have H2_:=(Option.bind_some _ _).symm.trans H;with_reducible exact H2_)|with_reducible exact H|(rw [hy659];exact H)|exact H
 have Ny659:=aK_ hy659
 clear hy659
 have c71:=yes_ H
 rw [if_pos c71] at H
 have c71b0:decide (0≤x35_1)=true:=decide_eq_true c71
 clear c71
 have c72:=yes_ H
 rw [if_pos c72] at H
 have c72b0:decide (x35_1<(t614.length:Int))=true:=decide_eq_true c72
 (try (have c72z0:=c72b0;simp only [hl619_4] at c72z0))
 clear c72
 have c73:=yes_ H
 rw [if_pos c73] at H
 have LMc73:=aK_ c73
 clear c73
 obtain ⟨y663,hy663⟩:∃ y_:List Bool,y_=(y659 ++ [rdOf false t614 x35_1]):=⟨_,rfl⟩
 replace H:(zAG.l0 kj14 t614 y650 y656 y663 l0_3 (l0_3.length:Int) (wrap64 (x35_1+1)))=some (r1,r2,r3):=by first|(rw [hy663];with_reducible exact H)|(have H2_:=(Option.bind_some _ _).symm.trans H;rw [hy663];with_reducible exact H2_)|(have H2_:=(Option.bind_some _ _).symm.trans H;with_reducible exact H2_)|with_reducible exact H|(rw [hy663];exact H)|exact H
 have Ny663:=aK_ hy663
 clear hy663
 have H':=aK_ H
 clear H
 obtain ⟨Ao74,co74,eo74⟩:=Kd.R_slice HO_10.out
 subst eo74
 try go_wp2
 have n0_:=aK_ (Kd.R_drew HO_7.out)
 have n1_:=aK_ (Kd.R_drew HO_9.out)
 have n2_:=aK_ (Kd.R_drew HO_10.out)
 have n3_:=aK_ (Kd.R_drew HO_11.out)
 have n4_:=aK_ (blk_drew BK611.out)
 have n5_:=aK_ (blk_drew BK620.out)
 have n6_:=aK_ (below_drew1 HB.out)
 clear HO_7
 clear HO_9
 clear HO_10
 clear HO_11
 clear BK611
 clear BK620
 clear HB
 have HO_7:=n0_
 have HO_9:=n1_
 have HO_10:=n2_
 have HO_11:=n3_
 have BK611:=n4_
 have BK620:=n5_
 have HB:=n6_
 clear n0_ n1_ n2_ n3_ n4_ n5_ n6_
 have q76:((ji23):Int)≤((x10_1.length:Int):Int):=aD_
 obtain ⟨i076,hi076,_,hsz76,_⟩:=info_parts info3
 have hroom76:x10_1.length≤co74:=(Kd.R_reads' HO_10.out).2.1
 have hC76:Kd.C (Kd.int .i64) _ Ao74 x10_1.length x10_1:=(Kd.R_reads' HO_10.out).2.2
 have q076:(0:Int)≤((ji23):Int):=aD_
 have hcut76:=cut_from (P:=Tryd.prog) 36 3 .i64 Tryd.underlying36 hi076 1 hsz76 Ao74 x10_1.length co74 (ji23) q076 q76
 have hr76:=Kd.C_drop (m:=((ji23):Int).toNat) (c:=co74) hC76 (by omega) hroom76
 obtain ⟨A76,hA76⟩:∃ A1,A1=(if co74=((ji23):Int).toNat then Ao74 else (Ao74:Option Addr).map (·.add (((ji23):Int).toNat * 1))):=⟨_,rfl⟩
 obtain ⟨c76,hc76⟩:∃ c1,c1=co74 - ((ji23):Int).toNat:=⟨_,rfl⟩
 have hy76:y623.length=x10_1.length - ((ji23):Int).toNat:=(by rw [Ny623.out,List.length_drop] <;> omega)
 rw [show (x10_1).drop ((ji23):Int).toNat=y623 from Ny623.out.symm] at hr76
 replace hr76:Kd.C (Kd.int .i64) _ A76 y623.length y623:=(by rw [hA76];exact hr76)
 rw [← hy76,← hA76,← hc76] at hcut76
 have HR626:=aK_ hr76
 have HC626:=aK_ (show y623.length≤c76 from by rw [hy76,hc76];exact Nat.sub_le_sub_right hroom76 _)
 clear hr76 hC76 hroom76 hi076 hsz76 hc76
 have KY76:=aK_ hy76
 have KA76:=aK_ hA76
 clear hy76 hA76
 have KL76:=aK_ (show ((ji23):Int).toNat≤x10_1.length from by omega)
 replace q76:=eq_true q76
 obtain ⟨Ao78,co78,eo78⟩:=Kd.R_slice HO_11.out
 (first|subst eo78|(injection eo78 with f1_ f2_ f3_;have f4_:=f1_.symm;have f5_:=f3_.symm;clear f1_ f2_ f3_;subst f4_;subst f5_))
 have q77:((ji23):Int)≤((x11_1.length:Int):Int):=aD_
 obtain ⟨i077,hi077,_,hsz77,_⟩:=info_parts info4
 have hroom77:x11_1.length≤co78:=(Kd.R_reads' HO_11.out).2.1
 have hC77:Kd.C Kd.bool _ Ao78 x11_1.length x11_1:=(Kd.R_reads' HO_11.out).2.2
 have q077:(0:Int)≤((ji23):Int):=aD_
 have hcut77:=cut_from (P:=Tryd.prog) 49 4 .i64 Tryd.underlying49 hi077 1 hsz77 Ao78 x11_1.length co78 (ji23) q077 q77
 have hr77:=Kd.C_drop (m:=((ji23):Int).toNat) (c:=co78) hC77 (by omega) hroom77
 obtain ⟨A77,hA77⟩:∃ A1,A1=(if co78=((ji23):Int).toNat then Ao78 else (Ao78:Option Addr).map (·.add (((ji23):Int).toNat * 1))):=⟨_,rfl⟩
 obtain ⟨c77,hc77⟩:∃ c1,c1=co78 - ((ji23):Int).toNat:=⟨_,rfl⟩
 have hy77:y627.length=x11_1.length - ((ji23):Int).toNat:=(by rw [Ny627.out,List.length_drop] <;> omega)
 rw [show (x11_1).drop ((ji23):Int).toNat=y627 from Ny627.out.symm] at hr77
 replace hr77:Kd.C Kd.bool _ A77 y627.length y627:=(by rw [hA77];exact hr77)
 rw [← hy77,← hA77,← hc77] at hcut77
 have HR630:=aK_ hr77
 have HC630:=aK_ (show y627.length≤c77 from by rw [hy77,hc77];exact Nat.sub_le_sub_right hroom77 _)
 clear hr77 hC77 hroom77 hi077 hsz77 hc77
 have KY77:=aK_ hy77
 have KA77:=aK_ hA77
 clear hy77 hA77
 have KL77:=aK_ (show ((ji23):Int).toNat≤x11_1.length from by omega)
 replace q77:=eq_true q77
 refine start_ (n:=11) (S:=fun w'=>w'.cell? ⟨gb620,0,none⟩=some (.int .i64 ((zAC l0_3 x35_1).f0))∧w'.cell? ⟨gb620,1,none⟩=some (.int .i64 ((zAC l0_3 x35_1).f1))∧w'.cell? ⟨gb620,2,none⟩=some (.int .i64 ((zAC l0_3 x35_1).f2))∧w'.cell? ⟨gb620,3,none⟩=some (.int .i64 ((zAC l0_3 x35_1).f3))∧w'.cell? ⟨gb620,4,none⟩=some (.slice A619_4 ((zAC l0_3 x35_1).f4).length c619_4)∧w'.cell? ⟨gb620,5,none⟩=some (.int .i64 ((zAC l0_3 x35_1).f5))) (ds:=[]) #[false,false,false,false,false,false,false,false,false,false,false] (by kernel_rfl) rfl rfl ⟨(zAB BK620.out 0).trans rfl,(zAB BK620.out 1).trans rfl,(zAB BK620.out 2).trans rfl,(zAB BK620.out 3).trans rfl,(zAB BK620.out 4).trans rfl,(zAB BK620.out 5).trans rfl⟩ (fun hHeld=>?_);refine with_tabW zAG.tab14 zAG.bits14 (fun HT_ HW_=>?_)
 generalize wc.drew=w75 at HO_7 HO_9 HO_10 HO_11 BK611 BK620 HB HR626 HR630 hHeld ⊢
 refine pure_ (i:=0) (N:=some 54) (v:=?_) (a':=?_) #[true,false,false,false,false,false,false,false,false,false,false] rfl rfl (any_of HT_.out (by kernel_rfl)) (fun _ _ _ h=>h) (Or.inl ⟨by rfl,?_⟩) ?_ ?_
 rotate_left
 ·intro w'
  go_simp
  with_reducible rfl
 rotate_left
 ·simp only [Act.put,List.setIfInBounds_toArray,List.set_cons_zero,List.set_cons_succ,i64_w,i32_w]
  rfl
 refine pure_ (i:=2) (N:=some 56) (v:=?_) (a':=?_) #[true,false,true,false,false,false,false,false,false,false,false] rfl rfl (any_of HT_.out (by kernel_rfl)) (fun _ _ _ h=>h) (Or.inl ⟨by rfl,?_⟩) ?_ ?_
 rotate_left
 ·intro w'
  go_simp
  with_reducible rfl
 rotate_left
 ·simp only [Act.put,List.setIfInBounds_toArray,List.set_cons_zero,List.set_cons_succ,i64_w,i32_w]
  rfl
 refine pure_ (i:=3) (N:=some 57) (v:=?_) (a':=?_) #[true,false,true,true,false,false,false,false,false,false,false] rfl rfl (any_of HT_.out (by kernel_rfl)) (fun _ _ _ h=>h) (Or.inl ⟨by rfl,?_⟩) ?_ ?_
 rotate_left
 ·intro w'
  go_simp
  with_reducible rfl
 rotate_left
 ·simp only [Act.put,List.setIfInBounds_toArray,List.set_cons_zero,List.set_cons_succ,i64_w,i32_w]
  rfl
 refine pure_ (i:=4) (N:=some 58) (v:=?_) (a':=?_) #[true,false,true,true,true,false,false,false,false,false,false] rfl rfl (any_of HT_.out (by kernel_rfl)) (fun _ _ _ h=>h) (Or.inl ⟨by rfl,?_⟩) ?_ ?_
 rotate_left
 ·intro w'
  go_simp
  with_reducible rfl
 rotate_left
 ·simp only [Act.put,List.setIfInBounds_toArray,List.set_cons_zero,List.set_cons_succ,i64_w,i32_w]
  rfl
 refine pure_ (i:=5) (N:=some 59) (v:=?_) (a':=?_) #[true,false,true,true,true,true,false,false,false,false,false] rfl rfl (any_of HT_.out (by kernel_rfl)) (fun _ _ _ h=>h) (Or.inl ⟨by rfl,?_⟩) ?_ ?_
 rotate_left
 ·intro w'
  go_simp
  with_reducible rfl
 rotate_left
 ·simp only [Act.put,List.setIfInBounds_toArray,List.set_cons_zero,List.set_cons_succ,i64_w,i32_w]
  rfl
 refine pure_ (i:=6) (N:=some 60) (v:=?_) (a':=?_) #[true,false,true,true,true,true,true,false,false,false,false] rfl rfl (any_of HT_.out (by kernel_rfl)) (fun _ _ _ h=>h) (Or.inl ⟨by rfl,?_⟩) ?_ ?_
 rotate_left
 ·intro w'
  go_simp
  with_reducible rfl
 rotate_left
 ·simp only [Act.put,List.setIfInBounds_toArray,List.set_cons_zero,List.set_cons_succ,i64_w,i32_w]
  rfl
 refine pure_ (i:=7) (N:=some 61) (v:=?_) (a':=?_) #[true,false,true,true,true,true,true,true,false,false,false] rfl rfl (any_of HT_.out (by kernel_rfl)) (fun _ _ _ h=>h) (Or.inl ⟨by rfl,?_⟩) ?_ ?_
 rotate_left
 ·intro w'
  go_simp
  with_reducible rfl
 rotate_left
 ·simp only [Act.put,List.setIfInBounds_toArray,List.set_cons_zero,List.set_cons_succ,i64_w,i32_w]
  rfl
 refine take_ (i:=1) (N:=some 55) (v:=?_) (a':=?_) #[true,true,true,true,true,true,true,true,false,false,false] rfl rfl (take_ofW HT_.out HW_.out (by kernel_rfl)) (fun _ _ _ h=>h) (Or.inl ⟨by rfl,?_⟩) hHeld ?_ ?_
 rotate_left
 ·rintro w' ⟨s0,s1,s2,s3,s4,s5⟩
  go_simp
  with_reducible rfl
 rotate_left
 ·simp only [Act.put,List.setIfInBounds_toArray,List.set_cons_zero,List.set_cons_succ,i64_w,i32_w]
  rfl
 refine pure_ (i:=8) (N:=some 62) (v:=?_) (a':=?_) #[true,true,true,true,true,true,true,true,true,false,false] rfl rfl (any_of HT_.out (by kernel_rfl)) (fun _ _ _ h=>h) (Or.inl ⟨by rfl,?_⟩) ?_ ?_
 rotate_left
 ·intro w'
  go_simp
  with_reducible rfl
 rotate_left
 ·simp only [Act.put,List.setIfInBounds_toArray,List.set_cons_zero,List.set_cons_succ,i64_w,i32_w]
  rfl
 refine one_ (i:=9) (N:=some 63) #[true,true,true,true,true,true,true,true,true,true,false] rfl rfl (one_of HT_.out (by kernel_rfl)) (by decide) (fun K hK=>?_)
 refine goesD_ 54 (num_fn (rules_range A14.out)) #[.agg #[.int .i64 ((zAC l0_3 x35_1).f0),.int .i64 ((zAC l0_3 x35_1).f1),.int .i64 ((zAC l0_3 x35_1).f2),.int .i64 ((zAC l0_3 x35_1).f3),.slice A619_4 ((zAC l0_3 x35_1).f4).length c619_4,.int .i64 ((zAC l0_3 x35_1).f5),.slice A76 y623.length c76,.slice A77 y627.length c77]] (by rfl) rfl rfl (by rfl) aM_ ?_
 with_reducible refine (units_dyn.calls kj14 t621 ((zAC l0_3 x35_1).f0) ((zAC l0_3 x35_1).f1) ((zAC l0_3 x35_1).f2) ((zAC l0_3 x35_1).f3) _ _ ((zAC l0_3 x35_1).f4) ((zAC l0_3 x35_1).f5) _ _ y623 _ _ y627 t631 _ ?side1 ?side2 ?side3 ?side4 ?side5 ?side6 A28.out).mono ?_
 (case side1=>repeat (first|exact (Kd.C_below HR619_4.out HB.out)|(with_reducible refine Kd.C_alloc ?_ _)|(with_reducible refine Kd.C_drewN ?_ _)|(with_reducible refine Kd.C_drew ?_)))
 (case side2=>exact HC619_4.out)
 (case side3=>repeat (first|exact (by repeat (first|(with_reducible exact HR626.out)|(with_reducible refine Kd.C_alloc ?_ _)|(with_reducible refine Kd.C_drewN ?_ _)|(with_reducible refine Kd.C_drew ?_)|exact HR626.out))|(with_reducible refine Kd.C_alloc ?_ _)|(with_reducible refine Kd.C_drewN ?_ _)|(with_reducible refine Kd.C_drew ?_)))
 (case side4=>exact HC626.out)
 (case side5=>repeat (first|exact (by repeat (first|(with_reducible exact HR630.out)|(with_reducible refine Kd.C_alloc ?_ _)|(with_reducible refine Kd.C_drewN ?_ _)|(with_reducible refine Kd.C_drew ?_)|exact HR630.out))|(with_reducible refine Kd.C_alloc ?_ _)|(with_reducible refine Kd.C_drewN ?_ _)|(with_reducible refine Kd.C_drew ?_)))
 (case side6=>exact HC630.out)
 rintro e w79 ⟨rfl,hb⟩
 refine ⟨_,rfl,?_⟩
 have n0_:=aK_ (Kd.R_below (aR_ HO_7.out) hb)
 have n1_:=aK_ (Kd.R_below (aR_ HO_9.out) hb)
 have n2_:=aK_ (Kd.R_below (aR_ HO_10.out) hb)
 have n3_:=aK_ (Kd.R_below (aR_ HO_11.out) hb)
 have n4_:=aK_ (zAN (g:=gb611) (o:=.cells #[.string a0_0,.slice A0_1 l0_1.length c0_1,.int .i64 a0_2,.slice (some ad619) l0_3.length c0_3] 25 (0,0)) (aB_ BK611.out) hb)
 have n5_:=aK_ (zAN (g:=gb620) (o:=.cells #[.int .i64 ((zAC l0_3 x35_1).f0),.int .i64 ((zAC l0_3 x35_1).f1),.int .i64 ((zAC l0_3 x35_1).f2),.int .i64 ((zAC l0_3 x35_1).f3),.slice A619_4 ((zAC l0_3 x35_1).f4).length c619_4,.int .i64 ((zAC l0_3 x35_1).f5)] 33 (0,0)) (aB_ BK620.out) hb)
 have n6_:=aK_ (Kd.C_below (by repeat (first|(with_reducible exact HR626.out)|(with_reducible refine Kd.C_alloc ?_ _)|(with_reducible refine Kd.C_drewN ?_ _)|(with_reducible refine Kd.C_drew ?_)|exact HR626.out)) hb)
 have n7_:=aK_ (Kd.C_below (by repeat (first|(with_reducible exact HR630.out)|(with_reducible refine Kd.C_alloc ?_ _)|(with_reducible refine Kd.C_drewN ?_ _)|(with_reducible refine Kd.C_drew ?_)|exact HR630.out)) hb)
 have n8_:=aK_ (zAH (aJ_ HB.out GE611.out GE620.out) hb)
 clear HO_7
 clear HO_9
 clear HO_10
 clear HO_11
 clear BK611
 clear BK620
 clear HR626
 clear HR630
 clear HB
 have HO_7:=n0_
 have HO_9:=n1_
 have HO_10:=n2_
 have HO_11:=n3_
 have BK611:=n4_
 have BK620:=n5_
 have HR626:=n6_
 have HR630:=n7_
 have HB:=n8_
 clear n0_ n1_ n2_ n3_ n4_ n5_ n6_ n7_ n8_
 (try clear hb)
 (try clear hb2)
 (try clear hk)
 (try clear hi)
 refine hK.out _ _ ⟨(zAB BK620.out 0).trans rfl,(zAB BK620.out 1).trans rfl,(zAB BK620.out 2).trans rfl,(zAB BK620.out 3).trans rfl,(zAB BK620.out 4).trans rfl,(zAB BK620.out 5).trans rfl⟩ (fun hHeld=>?_)
 clear hK K
 refine norm_ (a':=?_) ?_ ?_
 rotate_left
 ·show Act.put _ (some 63) _=_
  simp only [Act.put,List.setIfInBounds_toArray,List.set_cons_zero,List.set_cons_succ,i64_w,i32_w]
  rfl
 refine pure_ (i:=10) (N:=some 17) (v:=?_) (a':=?_) #[true,true,true,true,true,true,true,true,true,true,true] rfl rfl (any_of HT_.out (by kernel_rfl)) (fun _ _ _ h=>h) (Or.inl ⟨by rfl,?_⟩) ?_ ?_
 rotate_left
 ·intro w'
  go_simp
  with_reducible rfl
 rotate_left
 ·simp only [Act.put,List.setIfInBounds_toArray,List.set_cons_zero,List.set_cons_succ,i64_w,i32_w]
  rfl
 refine done_ (done_of HT_.out (by kernel_rfl)) ?_
 have hnb80:=NB620_611.out
 have hnc80:=NB611_620.out
 have hcz81_0:w79.cell? ⟨gb620,0,none⟩=some (.int .i64 ((zAC l0_3 x35_1).f0)):=(zAB BK620.out 0).trans rfl
 have hcz81_1:w79.cell? ⟨gb620,1,none⟩=some (.int .i64 ((zAC l0_3 x35_1).f1)):=(zAB BK620.out 1).trans rfl
 have hcz81_2:w79.cell? ⟨gb620,2,none⟩=some (.int .i64 ((zAC l0_3 x35_1).f2)):=(zAB BK620.out 2).trans rfl
 have hcz81_3:w79.cell? ⟨gb620,3,none⟩=some (.int .i64 ((zAC l0_3 x35_1).f3)):=(zAB BK620.out 3).trans rfl
 have hcz81_4:w79.cell? ⟨gb620,4,none⟩=some (.slice A619_4 ((zAC l0_3 x35_1).f4).length c619_4):=(zAB BK620.out 4).trans rfl
 have hcz81_5:w79.cell? ⟨gb620,5,none⟩=some (.int .i64 ((zAC l0_3 x35_1).f5)):=(zAB BK620.out 5).trans rfl
 have hfz81_0:=zAA BK620.out 0
 have hfz81_1:=zAA BK620.out 1
 have hfz81_2:=zAA BK620.out 2
 have hfz81_3:=zAA BK620.out 3
 have hfz81_4:=zAA BK620.out 4
 have hfz81_5:=zAA BK620.out 5
 have p632:0≤((ji23):Int):=aD_
 have q632:(ji23)<(x11_1.length:Int):=aD_
 obtain ⟨ad632,e632,hx632_0⟩:=Kd.at_bool (Kd.R_reads' HO_11.out).2.2 (ji23) p632 q632
 (try rw [← Nbq38.out] at hx632_0)
 (try rw [← Nbq65.out] at hx632_0)
 cases e632
 replace p632:=eq_true p632
 replace q632:=eq_true q632
 have p649:0≤((ji62):Int):=aD_
 have q649:(ji62)<(x11_1.length:Int):=aD_
 obtain ⟨ad649,e649,hx649_0⟩:=Kd.at_bool (Kd.R_reads' HO_11.out).2.2 (ji62) p649 q649
 (try rw [← Nbq38.out] at hx649_0)
 (try rw [← Nbq65.out] at hx649_0)
 obtain rfl:ad632=ad649:=(by injection e649)
 replace p649:=eq_true p649
 replace q649:=eq_true q649
 try go_wp2_with (first|((with_reducible refine gate_builtin (b:=.append) (xs:=#[.tmp 86,.tmp 88]) rfl ?_);at_builtin;refine Kd.R_append (Kd.int .i64) (w0:=w) w.heap.size rfl (.tmp 86) (.tmp 88) 36 3 (.int .i64 0) 8 rfl Tryd.underlying36 info3 rfl (by decide) (by omega) u9 x9_1 t631 [.int .i64 t631] (fun k_=>some k_≠(.slice Ao74 x10_1.length co74:Value).ownBlock) (fun _=>False) rfl rfl ?aP (fun _ hk=>hk.elim) ?aF ?aO ?aB ?aS ?aL ?_;(case aP=>exact rfl);(case aB=>exact (aJ_ HB.out GE611.out GE620.out));(case aF=>exact (fun k_ hk=>Kd.fresh' (Kd.R_lt (aR_ HO_10.out)) k_ hk));(case aO=>exact (aR_ HO_9.out));(case aS=>exact (zAE (aJ_ HB.out GE611.out GE620.out)));(case aL=>have:=LMc67.out;omega);intro v651 w82 ho hb hg hat;rw [← Ny650.out] at ho;have n0_:=aK_ (Kd.R_over' (aR_ HO_7.out) (Kd.R_typed (aR_ HO_9.out)) (by decide) hg);have n1_:=aK_ (Kd.R_after (ok:=(fun _=>True)) (by refine aR_ ?_;exact Kd.R_mono HO_10.out (fun _ hk=>⟨trivial,by first|exact hk|exact ob_ne hk⟩)) hg hat);have n2_:=aK_ (Kd.R_over' (aR_ HO_11.out) (Kd.R_typed (aR_ HO_9.out)) (by decide) hg);have n3_:=aK_ (blk_grown (g:=gb611) (o:=.cells #[.string a0_0,.slice A0_1 l0_1.length c0_1,.int .i64 a0_2,.slice (some ad619) l0_3.length c0_3] 25 (0,0)) (aB_ BK611.out) hg (Kd.R_ne HO_9.out BK611.out (by decide)));have n4_:=aK_ (blk_grown (g:=gb620) (o:=.cells #[.int .i64 ((zAC l0_3 x35_1).f0),.int .i64 ((zAC l0_3 x35_1).f1),.int .i64 ((zAC l0_3 x35_1).f2),.int .i64 ((zAC l0_3 x35_1).f3),.slice A619_4 ((zAC l0_3 x35_1).f4).length c619_4,.int .i64 ((zAC l0_3 x35_1).f5)] 33 (0,0)) (aB_ BK620.out) hg (Kd.R_ne HO_9.out BK620.out (by decide)));have n5_:=aK_ (hb);have n6_:=aK_ ((show Kd.C (Kd.int .i64) w82 A76 y623.length y623 from by rw [Ny623.out,KA76.out];exact Kd.C_drop (m:=((ji23):Int).toNat) (c:=co74) ((Kd.R_reads' (Kd.R_after (ok:=(fun _=>True)) (by refine aR_ ?_;exact Kd.R_mono HO_10.out (fun _ hk=>⟨trivial,by first|exact hk|exact ob_ne hk⟩)) hg hat)).2.2) KL76.out ((Kd.R_reads' (Kd.R_after (ok:=(fun _=>True)) (by refine aR_ ?_;exact Kd.R_mono HO_10.out (fun _ hk=>⟨trivial,by first|exact hk|exact ob_ne hk⟩)) hg hat)).2.1)));have n7_:=aK_ ((show Kd.C Kd.bool w82 A77 y627.length y627 from by rw [Ny627.out,KA77.out];exact Kd.C_drop (m:=((ji23):Int).toNat) (c:=co78) ((Kd.R_reads' (Kd.R_over' (aR_ HO_11.out) (Kd.R_typed (aR_ HO_9.out)) (by decide) hg)).2.2) KL77.out ((Kd.R_reads' (Kd.R_over' (aR_ HO_11.out) (Kd.R_typed (aR_ HO_9.out)) (by decide) hg)).2.1)));have n8_:=aK_ (ho);clear HO_7;clear HO_10;clear HO_11;clear BK611;clear BK620;clear HB;clear HR626;clear HR630;clear HO_9;have HO_7:=n0_;have HO_10:=n1_;have HO_11:=n2_;have BK611:=n3_;have BK620:=n4_;have HB:=n5_;have HR626:=n6_;have HR630:=n7_;have HO652:=n8_;clear n0_ n1_ n2_ n3_ n4_ n5_ n6_ n7_ n8_;clear ho hb hg hat;have q83:((ji23):Int)≤((x10_1.length:Int):Int):=aD_;obtain ⟨i083,hi083,_,hsz83,_⟩:=info_parts info3;have hcut83:=cut_to (P:=Tryd.prog) 36 3 .i64 Tryd.underlying36 hi083 Ao74 x10_1.length co74 (ji23) aD_ q83 (Kd.R_reads' HO_10.out).2.1;have hr83:=Kd.R_take (m:=((ji23):Int).toNat) HO_10.out (by omega);have hy83:y653.length=((ji23):Int).toNat:=(by rw [Ny653.out,List.length_take];omega);rw [← Ny653.out] at hr83;rw [← hy83] at hr83 hcut83;clear hy83 hi083 hsz83 HO_10;have HO655:=aK_ hr83;clear hr83;replace q83:=eq_true q83)|((with_reducible refine gate_builtin (b:=.append) (xs:=#[.tmp 92,.tmp 94]) rfl ?_);at_builtin;refine Kd.R_append (Kd.int .i64) (w0:=w) w.heap.size rfl (.tmp 92) (.tmp 94) 36 3 (.int .i64 0) 8 rfl Tryd.underlying36 info3 rfl (by decide) (by omega) (.slice Ao74 y653.length co74) y653 t631 [.int .i64 t631] (fun k_=>some k_≠(v651:Value).ownBlock) (fun _=>False) rfl rfl ?aP (fun _ hk=>hk.elim) ?aF ?aO ?aB ?aS ?aL ?_;(case aP=>exact rfl);(case aB=>exact (aJ_ HB.out GE611.out GE620.out));(case aF=>exact (fun k_ hk=>Kd.fresh' (Kd.R_lt (aR_ HO652.out)) k_ hk));(case aO=>exact (by refine aR_ ?_;exact Kd.R_mono HO655.out (fun _ hk=>hk.2)));(case aS=>exact (zAE (aJ_ HB.out GE611.out GE620.out)));(case aL=>have:=LMc69.out;omega);intro v657 w84 ho hb hg hat;rw [← Ny656.out] at ho;have n0_:=aK_ (Kd.R_over' (aR_ HO_7.out) (Kd.R_typed (aR_ HO655.out)) (by decide) hg);have n1_:=aK_ (Kd.R_over' (aR_ HO_11.out) (Kd.R_typed (aR_ HO655.out)) (by decide) hg);have n2_:=aK_ (blk_grown (g:=gb611) (o:=.cells #[.string a0_0,.slice A0_1 l0_1.length c0_1,.int .i64 a0_2,.slice (some ad619) l0_3.length c0_3] 25 (0,0)) (aB_ BK611.out) hg (Kd.R_ne HO655.out BK611.out (by decide)));have n3_:=aK_ (blk_grown (g:=gb620) (o:=.cells #[.int .i64 ((zAC l0_3 x35_1).f0),.int .i64 ((zAC l0_3 x35_1).f1),.int .i64 ((zAC l0_3 x35_1).f2),.int .i64 ((zAC l0_3 x35_1).f3),.slice A619_4 ((zAC l0_3 x35_1).f4).length c619_4,.int .i64 ((zAC l0_3 x35_1).f5)] 33 (0,0)) (aB_ BK620.out) hg (Kd.R_ne HO655.out BK620.out (by decide)));have n4_:=aK_ (Kd.R_after (ok:=(fun _=>True)) (by refine aR_ ?_;exact Kd.R_mono HO652.out (fun _ hk=>⟨trivial,by first|exact hk|exact ob_ne hk⟩)) hg hat);have n5_:=aK_ (hb);have n6_:=aK_ ((show Kd.C Kd.bool w84 A77 y627.length y627 from by rw [Ny627.out,KA77.out];exact Kd.C_drop (m:=((ji23):Int).toNat) (c:=co78) ((Kd.R_reads' (Kd.R_over' (aR_ HO_11.out) (Kd.R_typed (aR_ HO655.out)) (by decide) hg)).2.2) KL77.out ((Kd.R_reads' (Kd.R_over' (aR_ HO_11.out) (Kd.R_typed (aR_ HO655.out)) (by decide) hg)).2.1)));have n7_:=aK_ (ho);clear HO_7;clear HO_11;clear BK611;clear BK620;clear HO652;clear HB;clear HR630;clear HO655;have HO_7:=n0_;have HO_11:=n1_;have BK611:=n2_;have BK620:=n3_;have HO652:=n4_;have HB:=n5_;have HR630:=n6_;have HO658:=n7_;clear n0_ n1_ n2_ n3_ n4_ n5_ n6_ n7_;clear ho hb hg hat))
 have n0_:=aK_ (Kd.R_drew HO_7.out)
 have n1_:=aK_ (Kd.R_drew HO_11.out)
 have n2_:=aK_ (Kd.R_drew HO652.out)
 have n3_:=aK_ (Kd.R_drew HO658.out)
 have n4_:=aK_ (blk_drew BK611.out)
 have n5_:=aK_ (blk_drew BK620.out)
 have n6_:=aK_ (Kd.C_drew HR630.out)
 have n7_:=aK_ (below_drew1 HB.out)
 clear HO_7
 clear HO_11
 clear HO652
 clear HO658
 clear BK611
 clear BK620
 clear HR630
 clear HB
 have HO_7:=n0_
 have HO_11:=n1_
 have HO652:=n2_
 have HO658:=n3_
 have BK611:=n4_
 have BK620:=n5_
 have HR630:=n6_
 have HB:=n7_
 clear n0_ n1_ n2_ n3_ n4_ n5_ n6_ n7_
 have q86:((ji23):Int)≤((x11_1.length:Int):Int):=aD_
 obtain ⟨i086,hi086,_,hsz86,_⟩:=info_parts info4
 have hcut86:=cut_to (P:=Tryd.prog) 49 4 .i64 Tryd.underlying49 hi086 (some ad632) x11_1.length co78 (ji23) aD_ q86 (Kd.R_reads' HO_11.out).2.1
 have hr86:=Kd.R_take (m:=((ji23):Int).toNat) HO_11.out (by omega)
 have hy86:y659.length=((ji23):Int).toNat:=(by rw [Ny659.out,List.length_take];omega)
 rw [← Ny659.out] at hr86
 rw [← hy86] at hr86 hcut86
 clear hy86 hi086 hsz86 HO_11
 have HO661:=aK_ hr86
 clear hr86
 replace q86:=eq_true q86
 obtain ⟨Ao87,co87,eo87⟩:=Kd.R_slice HO_7.out
 (first|subst eo87|(injection eo87 with f1_ f2_ f3_;have f4_:=f1_.symm;have f5_:=f3_.symm;clear f1_ f2_ f3_;subst f4_;subst f5_))
 have p662:0≤(x35_1:Int):=aD_
 have q662:x35_1<(t614.length:Int):=aD_
 obtain ⟨ad662,e662,hx662_0⟩:=Kd.at_bool (Kd.R_reads' HO_7.out).2.2 x35_1 p662 q662
 (try rw [← Nbq38.out] at hx662_0)
 (try rw [← Nbq65.out] at hx662_0)
 cases e662
 replace p662:=eq_true p662
 replace q662:=eq_true q662
 refine start_ (n:=10) (S:=fun w'=>w'.cell? (ad662.add (x35_1).toNat)=some (.bool (rdOf false t614 x35_1))) (ds:=[7,8]) #[false,false,false,false,false,false,false,false,false,false] (by kernel_rfl) rfl rfl (hx662_0) (fun hHeld=>?_);refine with_tabW zAG.tab21 zAG.bits21 (fun HT_ HW_=>?_)
 generalize w84.drew=w85 at HO_7 HO_11 HO652 HO658 BK611 BK620 HR630 HB HO661 hx662_0 hHeld ⊢
 refine pure_ (i:=0) (N:=some 96) (v:=?_) (a':=?_) #[true,false,false,false,false,false,false,false,false,false] rfl rfl (any_of HT_.out (by kernel_rfl)) (fun _ _ _ h=>h) (Or.inl ⟨by rfl,?_⟩) ?_ ?_
 rotate_left
 ·intro w'
  go_simp
  with_reducible rfl
 rotate_left
 ·simp only [Act.put,List.setIfInBounds_toArray,List.set_cons_zero,List.set_cons_succ,i64_w,i32_w]
  rfl
 refine pure_ (i:=1) (N:=some 97) (v:=?_) (a':=?_) #[true,true,false,false,false,false,false,false,false,false] rfl rfl (any_of HT_.out (by kernel_rfl)) (fun _ _ _ h=>h) (Or.inl ⟨by rfl,?_⟩) ?_ ?_
 rotate_left
 ·intro w'
  go_simp
  with_reducible rfl
 rotate_left
 ·simp only [Act.put,List.setIfInBounds_toArray,List.set_cons_zero,List.set_cons_succ,i64_w,i32_w]
  rfl
 refine pure_ (i:=2) (N:=some 98) (v:=?_) (a':=?_) #[true,true,true,false,false,false,false,false,false,false] rfl rfl (any_of HT_.out (by kernel_rfl)) (fun _ _ _ h=>h) (Or.inl ⟨by rfl,?_⟩) ?_ ?_
 rotate_left
 ·intro w'
  go_simp
  with_reducible rfl
 rotate_left
 ·simp only [Act.put,List.setIfInBounds_toArray,List.set_cons_zero,List.set_cons_succ,i64_w,i32_w]
  rfl
 refine pure_ (i:=3) (N:=some 99) (v:=?_) (a':=?_) #[true,true,true,true,false,false,false,false,false,false] rfl rfl (any_of HT_.out (by kernel_rfl)) (fun _ _ _ h=>h) (Or.inl ⟨by rfl,?_⟩) ?_ ?_
 rotate_left
 ·intro w'
  go_simp
  with_reducible rfl
 rotate_left
 ·simp only [Act.put,List.setIfInBounds_toArray,List.set_cons_zero,List.set_cons_succ,i64_w,i32_w]
  rfl
 refine pure_ (i:=4) (N:=some 100) (v:=?_) (a':=?_) #[true,true,true,true,true,false,false,false,false,false] rfl rfl (any_of HT_.out (by kernel_rfl)) (fun _ _ _ h=>h) (Or.inl ⟨by rfl,?_⟩) ?_ ?_
 rotate_left
 ·intro w'
  go_simp
  with_reducible rfl
 rotate_left
 ·simp only [Act.put,List.setIfInBounds_toArray,List.set_cons_zero,List.set_cons_succ,i64_w,i32_w]
  rfl
 refine pure_ (i:=5) (N:=some 101) (v:=?_) (a':=?_) #[true,true,true,true,true,true,false,false,false,false] rfl rfl (any_of HT_.out (by kernel_rfl)) (fun _ _ _ h=>h) (Or.inl ⟨by rfl,?_⟩) ?_ ?_
 rotate_left
 ·intro w'
  go_simp
  with_reducible rfl
 rotate_left
 ·simp only [Act.put,List.setIfInBounds_toArray,List.set_cons_zero,List.set_cons_succ,i64_w,i32_w]
  rfl
 refine take_ (i:=6) (N:=some 102) (v:=?_) (a':=?_) #[true,true,true,true,true,true,true,false,false,false] rfl rfl (take_ofW HT_.out HW_.out (by kernel_rfl)) (fun _ _ _ h=>h) (Or.inl ⟨by rfl,?_⟩) hHeld ?_ ?_
 rotate_left
 ·intro w' s0
  go_simp
  with_reducible rfl
 rotate_left
 ·simp only [Act.put,List.setIfInBounds_toArray,List.set_cons_zero,List.set_cons_succ,i64_w,i32_w]
  rfl
 refine last_ (i:=7) (N:=some 103) #[true,true,true,true,true,true,true,true,false,false] rfl rfl (one_of HT_.out (by kernel_rfl)) (by decide) (fun K hK=>?_)
 refine value_ (w1:=?_) (v:=?_) (by rfl) rfl ?_ ?_
 rotate_left 2
 ·go_simp
  constructor
  ·rfl
  ·rfl
 refine hK.out _ _ ?_
 clear hK K
 refine norm_ (a':=?_) ?_ ?_
 rotate_left
 ·show Act.put _ (some 103) _=_
  simp only [Act.put,List.setIfInBounds_toArray,List.set_cons_zero,List.set_cons_succ,i64_w,i32_w]
  rfl
 refine last_ (i:=8) (N:=some 104) #[true,true,true,true,true,true,true,true,true,false] rfl rfl (one_of HT_.out (by kernel_rfl)) (by decide) (fun K hK=>?_)
 refine Kd.R_append_step Kd.bool (w0:=w) w.heap.size (by rfl) (.tmp 98) (.tmp 103) 49 4 (.bool false) 1 rfl Tryd.underlying49 info4 rfl (by decide) (by omega) (.slice (some ad632) y659.length co78) y659 (rdOf false t614 x35_1) [.bool (rdOf false t614 x35_1)] (fun k_=>some k_≠(.slice (some ad662) t614.length co87:Value).ownBlock) (fun _=>False) rfl rfl ?aP (fun _ hk=>hk.elim) ?aF ?aO ?aB ?aS ?aL ?_
 (case aP=>exact rfl)
 (case aB=>exact (aJ_ HB.out GE611.out GE620.out))
 (case aF=>exact (fun k_ hk=>Kd.fresh' (Kd.R_lt (aR_ HO_7.out)) k_ hk))
 (case aO=>exact (aR_ HO661.out))
 (case aS=>exact (zAE (aJ_ HB.out GE611.out GE620.out)))
 (case aL=>have:=LMc73.out;omega)
 intro v664 w88 ho hb hg hat
 rw [← Ny663.out] at ho
 have n0_:=aK_ (Kd.R_after (ok:=(fun _=>True)) (by refine aR_ ?_;exact Kd.R_mono HO_7.out (fun _ hk=>⟨trivial,by first|exact hk|exact ob_ne hk⟩)) hg hat)
 have n1_:=aK_ (blk_grown (g:=gb611) (o:=.cells #[.string a0_0,.slice A0_1 l0_1.length c0_1,.int .i64 a0_2,.slice (some ad619) l0_3.length c0_3] 25 (0,0)) (aB_ BK611.out) hg (Kd.R_ne HO661.out BK611.out (by decide)))
 have n2_:=aK_ (blk_grown (g:=gb620) (o:=.cells #[.int .i64 ((zAC l0_3 x35_1).f0),.int .i64 ((zAC l0_3 x35_1).f1),.int .i64 ((zAC l0_3 x35_1).f2),.int .i64 ((zAC l0_3 x35_1).f3),.slice A619_4 ((zAC l0_3 x35_1).f4).length c619_4,.int .i64 ((zAC l0_3 x35_1).f5)] 33 (0,0)) (aB_ BK620.out) hg (Kd.R_ne HO661.out BK620.out (by decide)))
 have n3_:=aK_ (Kd.R_over' (aR_ HO652.out) (Kd.R_typed (aR_ HO661.out)) (by decide) hg)
 have n4_:=aK_ (Kd.R_over' (aR_ HO658.out) (Kd.R_typed (aR_ HO661.out)) (by decide) hg)
 have n5_:=aK_ (hb)
 have n6_:=aK_ (ho)
 clear HO_7
 clear BK611
 clear BK620
 clear HO652
 clear HO658
 clear HB
 clear HO661
 have HO_7:=n0_
 have BK611:=n1_
 have BK620:=n2_
 have HO652:=n3_
 have HO658:=n4_
 have HB:=n5_
 have HO665:=n6_
 clear n0_ n1_ n2_ n3_ n4_ n5_ n6_
 clear ho hb hg hat
 refine hK.out _ _ ?_
 clear hK K
 refine norm_ (a':=?_) ?_ ?_
 rotate_left
 ·show Act.put _ (some 104) _=_
  simp only [Act.put,List.setIfInBounds_toArray,List.set_cons_zero,List.set_cons_succ,i64_w,i32_w]
  rfl
 refine pure_ (i:=9) (N:=some 11) (v:=?_) (a':=?_) #[true,true,true,true,true,true,true,true,true,true] rfl rfl (any_of HT_.out (by kernel_rfl)) (fun _ _ _ h=>h) (Or.inl ⟨by rfl,?_⟩) ?_ ?_
 rotate_left
 ·intro w'
  go_simp
  with_reducible rfl
 rotate_left
 ·simp only [Act.put,List.setIfInBounds_toArray,List.set_cons_zero,List.set_cons_succ,i64_w,i32_w]
  rfl
 refine done_ (done_of HT_.out (by kernel_rfl)) ?_
 try go_wp2
 go_roundg kj14
 case measure=>have:=HK1.out;have:=HJ14.out;omega
 case rel=>exact ⟨(y650),(y656),(y663),(wrap64 (x35_1+1)),aS2_,H',⟨by have:=HK1.out;have:=HJ14.out;omega⟩,⟨by refine aR_ ?_;exact Kd.R_mono HO_7.out (fun _ hk=>hk.2)⟩,⟨by refine aR_ ?_;exact Kd.R_mono HO652.out (fun _ hk=>hk.2)⟩,⟨aR_ HO658.out⟩,⟨aR_ HO665.out⟩,⟨aB_ BK611.out⟩,⟨aJ_ HB.out GE611.out GE620.out⟩⟩
end Go.Proofs.YthbnigjckjkmnaaDoor.S

namespace Go.Proofs.YthbnigjckjkmnaaDoor.S
open Go.RowKit Go.Proofs.YthbnigjckjkmnaaDoorW.PrintWords Go.Proofs.YthbnigjckjkmnaaDoorW.PrintLast Go.Proofs.YthbnigjckjkmnaaDoorW.PrintMore
attribute [local go_sem] max2_int min2_int max_two min_two max_three min_three max_four min_four
def octroilaw08_awake.f (k:Nat)  : Option (Bool):=(some (([(⟨(⟨#[97]⟩:ByteArray),1⟩:S47)]:List (S47)):List (S47))).bind fun y684=>((some (([(⟨3,0,0,0,([]:List (S45)),0⟩:S33),(⟨2,3,0,0,([]:List (S45)),0⟩:S33),(⟨8,0,0,0,([]:List (S45)),0⟩:S33),(⟨2,5,0,0,([]:List (S45)),0⟩:S33),(⟨6,0,0,0,([]:List (S45)),0⟩:S33)]:List (S33)):List (S33))).bind fun y687=>((zAG.f k (⟨#[112]⟩:ByteArray) y684 0 y687).bind fun bt691=>(if 1≤(y687.length:Int) then ((zAG.f k (⟨#[112]⟩:ByteArray) y684 0 (y687.take (1:Int).toNat)).bind fun bt699=>(if bt691.2.1=0 then (if bt691.2.2=0 then ((zAM.f k bt691.1 (([2,1,1,1,1]:List Int))).bind fun t707=>(if t707=true then (if bt699.2.1=0 then (some (bt699.2.2 == 80)) else (some false)) else (some false))) else (some false)) else (some false))) else (none))))
theorem octroilaw08_awake.mono:∀ k,LeO (octroilaw08_awake.f k ) (octroilaw08_awake.f (k+1) ):=by
 intro  k
 unfold octroilaw08_awake.f
 repeat' first
   |(with_reducible exact zAM.mono _ _ _)
   |(with_reducible exact zAG.mono _ _ _ _ _)
   |(with_reducible exact LeO.refl _)
   |(with_reducible exact LeO.none _)
   |(with_reducible refine LeO.ite ?_ ?_)
   |(with_reducible refine LeO.bind ?_ (fun _=>?_))
   |exact zAM.mono _ _ _
   |exact zAG.mono _ _ _ _ _
   |exact LeO.none _
   |refine LeO.ite ?_ ?_
   |refine LeO.bind ?_ (fun _=>?_)
set_option maxHeartbeats 8000000 in
set_option maxRecDepth 100000 in
theorem octroilaw08_awake.calls (k:Nat)  (r:Bool) (w:World) (hG:GW w) (h:octroilaw08_awake.f k  = some r) :
  Calls Tryd.prog 32 #[] w fun e w'=>e = .returned (.bool r)∧Below w.heap.size w w':=by
 have hu47:=Tryd.underlying47
 have hu33:=Tryd.underlying33
 have hu25:=Tryd.underlying25
 have HB:=aK_ (Below.refl w.heap.size w)
 have H:((some (([(⟨(⟨#[97]⟩:ByteArray),1⟩:S47)]:List (S47)):List (S47))).bind fun y684=>((some (([(⟨3,0,0,0,([]:List (S45)),0⟩:S33),(⟨2,3,0,0,([]:List (S45)),0⟩:S33),(⟨8,0,0,0,([]:List (S45)),0⟩:S33),(⟨2,5,0,0,([]:List (S45)),0⟩:S33),(⟨6,0,0,0,([]:List (S45)),0⟩:S33)]:List (S33)):List (S33))).bind fun y687=>((zAG.f k (⟨#[112]⟩:ByteArray) y684 0 y687).bind fun bt691=>(if 1≤(y687.length:Int) then ((zAG.f k (⟨#[112]⟩:ByteArray) y684 0 (y687.take (1:Int).toNat)).bind fun bt699=>(if bt691.2.1=0 then (if bt691.2.2=0 then ((zAM.f k bt691.1 (([2,1,1,1,1]:List Int))).bind fun t707=>(if t707=true then (if bt699.2.1=0 then (some (bt699.2.2 == 80)) else (some false)) else (some false))) else (some false)) else (some false))) else (none)))))=some r:=h
 clear h
 obtain ⟨y684,hy684⟩:∃ y_:List (S47),y_=(([(⟨(⟨#[97]⟩:ByteArray),1⟩:S47)]:List (S47))):=⟨_,rfl⟩
 replace H:((some (([(⟨3,0,0,0,([]:List (S45)),0⟩:S33),(⟨2,3,0,0,([]:List (S45)),0⟩:S33),(⟨8,0,0,0,([]:List (S45)),0⟩:S33),(⟨2,5,0,0,([]:List (S45)),0⟩:S33),(⟨6,0,0,0,([]:List (S45)),0⟩:S33)]:List (S33)):List (S33))).bind fun y687=>((zAG.f k (⟨#[112]⟩:ByteArray) y684 0 y687).bind fun bt691=>(if 1≤(y687.length:Int) then ((zAG.f k (⟨#[112]⟩:ByteArray) y684 0 (y687.take (1:Int).toNat)).bind fun bt699=>(if bt691.2.1=0 then (if bt691.2.2=0 then ((zAM.f k bt691.1 (([2,1,1,1,1]:List Int))).bind fun t707=>(if t707=true then (if bt699.2.1=0 then (some (bt699.2.2 == 80)) else (some false)) else (some false))) else (some false)) else (some false))) else (none))))=some r:=by first|(rw [hy684];with_reducible exact H)|(have H2_:=(Option.bind_some _ _).symm.trans H;rw [hy684];with_reducible exact H2_)|(have H2_:=(Option.bind_some _ _).symm.trans H;with_reducible exact H2_)|with_reducible exact H|(rw [hy684];exact H)|exact H
 have Ny684:=aK_ hy684
 clear hy684
 obtain ⟨y687,hy687⟩:∃ y_:List (S33),y_=(([(⟨3,0,0,0,([]:List (S45)),0⟩:S33),(⟨2,3,0,0,([]:List (S45)),0⟩:S33),(⟨8,0,0,0,([]:List (S45)),0⟩:S33),(⟨2,5,0,0,([]:List (S45)),0⟩:S33),(⟨6,0,0,0,([]:List (S45)),0⟩:S33)]:List (S33))):=⟨_,rfl⟩
 replace H:((zAG.f k (⟨#[112]⟩:ByteArray) y684 0 y687).bind fun bt691=>(if 1≤(y687.length:Int) then ((zAG.f k (⟨#[112]⟩:ByteArray) y684 0 (y687.take (1:Int).toNat)).bind fun bt699=>(if bt691.2.1=0 then (if bt691.2.2=0 then ((zAM.f k bt691.1 (([2,1,1,1,1]:List Int))).bind fun t707=>(if t707=true then (if bt699.2.1=0 then (some (bt699.2.2 == 80)) else (some false)) else (some false))) else (some false)) else (some false))) else (none)))=some r:=by first|(rw [hy687];with_reducible exact H)|(have H2_:=(Option.bind_some _ _).symm.trans H;rw [hy687];with_reducible exact H2_)|(have H2_:=(Option.bind_some _ _).symm.trans H;with_reducible exact H2_)|with_reducible exact H|(rw [hy687];exact H)|exact H
 have Ny687:=aK_ hy687
 clear hy687
 replace H:=Option.bind_eq_some_iff.mp H
 obtain ⟨⟨t691,t694,t695⟩,A10,H⟩:=H
 replace H:(if 1≤(y687.length:Int) then ((zAG.f k (⟨#[112]⟩:ByteArray) y684 0 (y687.take (1:Int).toNat)).bind fun bt699=>(if t694=0 then (if t695=0 then ((zAM.f k t691 (([2,1,1,1,1]:List Int))).bind fun t707=>(if t707=true then (if bt699.2.1=0 then (some (bt699.2.2 == 80)) else (some false)) else (some false))) else (some false)) else (some false))) else (none))=some r:=H
 have A1:=aK_ A10
 clear A10
 by_cases c2:1≤(y687.length:Int)
 rotate_left
 ·rw [if_neg c2] at H
  exact absurd H (by simp)
 rw [if_pos c2] at H
 have c2b0:=eq_true c2
 have c2b1:decide (1≤(y687.length:Int))=true:=decide_eq_true c2
 clear c2
 obtain ⟨y696,hy696⟩:∃ y_:List (S33),y_=(y687.take (1:Int).toNat):=⟨_,rfl⟩
 replace H:((zAG.f k (⟨#[112]⟩:ByteArray) y684 0 y696).bind fun bt699=>(if t694=0 then (if t695=0 then ((zAM.f k t691 (([2,1,1,1,1]:List Int))).bind fun t707=>(if t707=true then (if bt699.2.1=0 then (some (bt699.2.2 == 80)) else (some false)) else (some false))) else (some false)) else (some false)))=some r:=by first|(rw [hy696];with_reducible exact H)|(have H2_:=(Option.bind_some _ _).symm.trans H;rw [hy696];with_reducible exact H2_)|(have H2_:=(Option.bind_some _ _).symm.trans H;with_reducible exact H2_)|with_reducible exact H|(rw [hy696];exact H)|exact H
 have Ny696:=aK_ hy696
 clear hy696
 replace H:=Option.bind_eq_some_iff.mp H
 obtain ⟨⟨t699,t702,t703⟩,A30,H⟩:=H
 replace H:(if t694=0 then (if t695=0 then ((zAM.f k t691 (([2,1,1,1,1]:List Int))).bind fun t707=>(if t707=true then (if t702=0 then (some (t703 == 80)) else (some false)) else (some false))) else (some false)) else (some false))=some r:=H
 have A3:=aK_ A30
 clear A30
 by_cases c4:t694=0
 rotate_left
 ·rw [if_neg c4] at H
  have c4b0:(t694 == 0)=false:=beq_eq_false_iff_ne.mpr c4
  have c4b1:(t694 != 0)=true:=bne_iff_ne.mpr c4
  obtain rfl:=Option.some.inj H
  go_enter Tryd.func32,Tryd.ntmps32
  go_wp2_with (first|((with_reducible refine zAQ (N:=9) rfl ?_);(try (refine zAU (by rfl) ?_;dsimp only));refine Kd.R_lit k47 _ 47 ?hg (N:=9) ?hd (xs:=([(⟨(⟨#[97]⟩:ByteArray),1⟩:S47)]:List (S47))) (inner:=[.string (⟨#[97]⟩:ByteArray),.int .i64 1]) (ok:=fun _=>True) (okp:=fun _=>True) ?hr ?hp (fun _ hk=>hk) trivial (Below.refl _ _) (Nat.le_refl _) (by simp) ?_;(case hd=>rfl);(case hg=>rfl);(case hr=>first|(go_simp;done)|(go_simp;rfl));(case hp=>exact (Reps.c2 (show Kd.M k47 _ _ _ (⟨(⟨#[97]⟩:ByteArray),1⟩:S47) [.string (⟨#[97]⟩:ByteArray),.int .i64 1] from (k47_mkM _ _ _ (⟨(⟨#[97]⟩:ByteArray),1⟩:S47) )) (Reps.none _ _)));intro v685 w77 ho78 hb hg_ hnew_;clear hg_ hnew_;(first|rw [← Ny684.out] at ho78|(simp only [Int.reduceToNat] at ho78;rw [← Ny684.out] at ho78));have n0_:=aK_ (Kd.R_lower ho78 (zAE (aH_ HB.out)));have n1_:=aK_ (zAH (aH_ HB.out) hb);clear HB;have HO686:=n0_;have HB:=n1_;clear n0_ n1_;clear hb ho78)|((with_reducible refine zAQ (N:=15) rfl ?_);(try (refine zAU (by rfl) ?_;dsimp only));refine Kd.S_lit k33 _ 33 ?hg (N:=15) ?hd (xs:=([(⟨3,0,0,0,([]:List (S45)),0⟩:S33),(⟨2,3,0,0,([]:List (S45)),0⟩:S33),(⟨8,0,0,0,([]:List (S45)),0⟩:S33),(⟨2,5,0,0,([]:List (S45)),0⟩:S33),(⟨6,0,0,0,([]:List (S45)),0⟩:S33)]:List (S33))) (inner:=[.int .i64 3,.int .i64 0,.int .i64 0,.int .i64 0,.slice none 0 0,.int .i64 0,.int .i64 2,.int .i64 3,.int .i64 0,.int .i64 0,.slice none 0 0,.int .i64 0,.int .i64 8,.int .i64 0,.int .i64 0,.int .i64 0,.slice none 0 0,.int .i64 0,.int .i64 2,.int .i64 5,.int .i64 0,.int .i64 0,.slice none 0 0,.int .i64 0,.int .i64 6,.int .i64 0,.int .i64 0,.int .i64 0,.slice none 0 0,.int .i64 0]) (ok:=fun _=>True) (okp:=fun _=>True) ?hr ?hp (fun _ hk=>hk) trivial (Below.refl _ _) (Nat.le_refl _) (by simp) ?_;(case hd=>rfl);(case hg=>rfl);(case hr=>first|(go_simp;done)|(go_simp;rfl));(case hp=>exact (Reps.c6 (show Kd.M k33 _ _ _ (⟨3,0,0,0,([]:List (S45)),0⟩:S33) [.int .i64 3,.int .i64 0,.int .i64 0,.int .i64 0,.slice none 0 0,.int .i64 0] from (k33_mkM _ _ _ (⟨3,0,0,0,([]:List (S45)),0⟩:S33) (Kd.R_nil _ _ _ _ _))) (Reps.c6 (show Kd.M k33 _ _ _ (⟨2,3,0,0,([]:List (S45)),0⟩:S33) [.int .i64 2,.int .i64 3,.int .i64 0,.int .i64 0,.slice none 0 0,.int .i64 0] from (k33_mkM _ _ _ (⟨2,3,0,0,([]:List (S45)),0⟩:S33) (Kd.R_nil _ _ _ _ _))) (Reps.c6 (show Kd.M k33 _ _ _ (⟨8,0,0,0,([]:List (S45)),0⟩:S33) [.int .i64 8,.int .i64 0,.int .i64 0,.int .i64 0,.slice none 0 0,.int .i64 0] from (k33_mkM _ _ _ (⟨8,0,0,0,([]:List (S45)),0⟩:S33) (Kd.R_nil _ _ _ _ _))) (Reps.c6 (show Kd.M k33 _ _ _ (⟨2,5,0,0,([]:List (S45)),0⟩:S33) [.int .i64 2,.int .i64 5,.int .i64 0,.int .i64 0,.slice none 0 0,.int .i64 0] from (k33_mkM _ _ _ (⟨2,5,0,0,([]:List (S45)),0⟩:S33) (Kd.R_nil _ _ _ _ _))) (Reps.c6 (show Kd.M k33 _ _ _ (⟨6,0,0,0,([]:List (S45)),0⟩:S33) [.int .i64 6,.int .i64 0,.int .i64 0,.int .i64 0,.slice none 0 0,.int .i64 0] from (k33_mkM _ _ _ (⟨6,0,0,0,([]:List (S45)),0⟩:S33) (Kd.R_nil _ _ _ _ _))) (Reps.none _ _)))))));intro v688 w79 ho80 hb hg_ hnew_;clear hg_ hnew_;(first|rw [← Ny687.out] at ho80|(simp only [Int.reduceToNat] at ho80;rw [← Ny687.out] at ho80));have n0_:=aK_ (Kd.R_below (aR_ HO686.out) hb);have n1_:=aK_ (Kd.S_lower ho80 (zAE (aH_ HB.out)));have n2_:=aK_ (zAH (aH_ HB.out) hb);clear HO686;clear HB;have HO686:=n0_;have HO689:=n1_;have HB:=n2_;clear n0_ n1_ n2_;clear hb ho80;obtain ⟨Ao81,co81,eo81⟩:=Kd.S_slice HO689.out;subst eo81;obtain ⟨Ao82,co82,eo82⟩:=Kd.R_slice HO686.out;subst eo82)|((with_reducible refine zAQ (N:=1) rfl ?_);(try (refine zAU (by rfl) ?_;dsimp only));refine zAS ?hg (N:=1) ?hd (cs:=#[.string (⟨#[]⟩:ByteArray),.slice none 0 0,.int .i64 0,.slice none 0 0]) (t:=25) ?hr ?_;(case hd=>rfl);(case hg=>rfl);(case hr=>first|(go_simp;done)|(go_simp;rfl));intro gb690 hg w83 hbox hb;have n0_:=aK_ (Kd.R_below (aR_ HO686.out) hb);have n1_:=aK_ (Kd.S_below (aS_ HO689.out) hb);have n2_:=aK_ (zAH (aH_ HB.out) hb);have n3_:=aK_ (hbox);have n4_:=aK_ ((by rw [hg];exact (zAE (aH_ HB.out)):w.heap.size≤gb690));have n5_:=aK_ ((by rw [hg];exact (zAE (aH_ HB.out)):w.heap.size≤gb690));clear HO686;clear HO689;clear HB;have HO686:=n0_;have HO689:=n1_;have HB:=n2_;have BK690:=n3_;have GW690:=n4_;have GE690:=n5_;clear n0_ n1_ n2_ n3_ n4_ n5_;clear hb hbox hg;have hcz84_0:w83.cell? ⟨gb690,0,none⟩=some (.string (⟨#[]⟩:ByteArray)):=(zAB BK690.out 0).trans rfl;have hcz84_1:w83.cell? ⟨gb690,1,none⟩=some (.slice none 0 0):=(zAB BK690.out 1).trans rfl;have hcz84_2:w83.cell? ⟨gb690,2,none⟩=some (.int .i64 0):=(zAB BK690.out 2).trans rfl;have hcz84_3:w83.cell? ⟨gb690,3,none⟩=some (.slice none 0 0):=(zAB BK690.out 3).trans rfl;have hfz84_0:=zAA BK690.out 0;have hfz84_1:=zAA BK690.out 1;have hfz84_2:=zAA BK690.out 2;have hfz84_3:=zAA BK690.out 3)|((with_reducible refine gate_store (t:=25) (p:=1) rfl ?_);refine store_event (t:=25) (p:=1) (v:=?vo_w85) (w1:=((((w83.setCell ⟨gb690,0,none⟩ (.string (⟨#[112]⟩:ByteArray))).setCell ⟨gb690,1,none⟩ (.slice Ao82 y684.length co82)).setCell ⟨gb690,2,none⟩ (.int .i64 0)).setCell ⟨gb690,3,none⟩ (.slice Ao81 y687.length co81))) ?hg ?ho ?hn ?hr ?_;(case ho=>rfl);(case hg=>rfl);(case hn=>rfl);(case hr=>first|(go_simp;done)|(go_simp;rfl));intro w85 hw;have n0_:zAO (Kd.R k47 47 w85 w.heap.size (fun _=>True) (.slice Ao82 y684.length co82) y684):=⟨(by rw [hw];exact (by refine aR_ ?_;exact Kd.R_mono (Kd.R_far (p:=⟨gb690,3,none⟩) (Kd.R_far (p:=⟨gb690,2,none⟩) (Kd.R_far (p:=⟨gb690,1,none⟩) (Kd.R_far (p:=⟨gb690,0,none⟩) (Kd.R_types HO686.out BK690.out (by decide)) (fun _ hk=>hk.2) (.string (⟨#[112]⟩:ByteArray))) (fun _ hk=>hk.2) (.slice Ao82 y684.length co82)) (fun _ hk=>hk.2) (.int .i64 0)) (fun _ hk=>hk.2) (.slice Ao81 y687.length co81)) (fun _ hk=>trivial)))⟩;have n1_:zAO (Kd.S k33 33 w85 w.heap.size (fun _=>True) (.slice Ao81 y687.length co81) y687):=⟨(by rw [hw];exact (by refine aS_ ?_;exact Kd.S_mono (Kd.S_far (p:=⟨gb690,3,none⟩) (Kd.S_far (p:=⟨gb690,2,none⟩) (Kd.S_far (p:=⟨gb690,1,none⟩) (Kd.S_far (p:=⟨gb690,0,none⟩) (Kd.S_types HO689.out BK690.out (by decide)) (fun _ hk=>hk.2) (.string (⟨#[112]⟩:ByteArray))) (fun _ hk=>hk.2) (.slice Ao82 y684.length co82)) (fun _ hk=>hk.2) (.int .i64 0)) (fun _ hk=>hk.2) (.slice Ao81 y687.length co81)) (fun _ hk=>trivial)))⟩;have n2_:zAO (w85.heap[gb690]?=some (.cells #[.string (⟨#[112]⟩:ByteArray),.slice Ao82 y684.length co82,.int .i64 0,.slice Ao81 y687.length co81] 25 (0,0))):=⟨(by rw [hw];exact (by refine aB_ ?_;refine blk_put (cs:=#[.string (⟨#[112]⟩:ByteArray),.slice Ao82 y684.length co82,.int .i64 0,.slice none 0 0]) ?_ 3 _ rfl;refine aB_ ?_;refine blk_put (cs:=#[.string (⟨#[112]⟩:ByteArray),.slice Ao82 y684.length co82,.int .i64 0,.slice none 0 0]) ?_ 2 _ rfl;refine aB_ ?_;refine blk_put (cs:=#[.string (⟨#[112]⟩:ByteArray),.slice none 0 0,.int .i64 0,.slice none 0 0]) ?_ 1 _ rfl;refine aB_ ?_;refine blk_put (cs:=#[.string (⟨#[]⟩:ByteArray),.slice none 0 0,.int .i64 0,.slice none 0 0]) ?_ 0 _ rfl;refine aB_ ?_;exact BK690.out))⟩;have n3_:zAO (Below w.heap.size w w85):=⟨(by rw [hw];exact (aI_ HB.out GE690.out))⟩;clear hw;clear HO686;clear HO689;clear BK690;clear HB;have HO686:=n0_;have HO689:=n1_;have BK690:=n2_;have HB:=n3_;clear n0_ n1_ n2_ n3_;have hcz86_0:w85.cell? ⟨gb690,0,none⟩=some (.string (⟨#[112]⟩:ByteArray)):=(zAB BK690.out 0).trans rfl;have hcz86_1:w85.cell? ⟨gb690,1,none⟩=some (.slice Ao82 y684.length co82):=(zAB BK690.out 1).trans rfl;have hcz86_2:w85.cell? ⟨gb690,2,none⟩=some (.int .i64 0):=(zAB BK690.out 2).trans rfl;have hcz86_3:w85.cell? ⟨gb690,3,none⟩=some (.slice Ao81 y687.length co81):=(zAB BK690.out 3).trans rfl;have hfz86_0:=zAA BK690.out 0;have hfz86_1:=zAA BK690.out 1;have hfz86_2:=zAA BK690.out 2;have hfz86_3:=zAA BK690.out 3)|((with_reducible refine gate_callee (f:=33) rfl ?_);refine goesL_ (some 19) rfl rfl Tryd.func33 (by kernel_rfl) rfl #[.agg #[.string (⟨#[112]⟩:ByteArray),.slice Ao82 y684.length co82,.int .i64 0,.slice Ao81 y687.length co81]] rfl aM_ ?_;(with_reducible refine (zAG.calls k (⟨#[112]⟩:ByteArray) _ _ y684 0 _ _ y687 t691 t694 t695 _ ?side1 ?side2 ?side3 ?side4 ?side5 A1.out).mono ?_);(case side1=>(first|(with_reducible exact hG)|((repeat (with_reducible first|exact hG|apply GW.drewN|apply GW.drew|apply GW.alloc));done)|exact GW.below hG (aI_ HB.out GE690.out)));(case side2=>repeat (first|exact (Kd.R_reads' HO686.out).2.2|(with_reducible refine Kd.C_alloc ?_ _)|(with_reducible refine Kd.C_drewN ?_ _)|(with_reducible refine Kd.C_drew ?_)));(case side3=>exact (Kd.R_reads' HO686.out).2.1);(case side4=>repeat (first|exact (Kd.S_reads' HO689.out).2.2|(with_reducible refine Kd.C_alloc ?_ _)|(with_reducible refine Kd.C_drewN ?_ _)|(with_reducible refine Kd.C_drew ?_)));(case side5=>exact (Kd.S_reads' HO689.out).2.1);rintro e w87 ⟨v692,rfl,ho0,hb⟩;refine ⟨_,rfl,?_⟩;have n0_:=aK_ (Kd.R_below (aR_ HO686.out) hb);have n1_:=aK_ (Kd.S_below (aS_ HO689.out) hb);have n2_:=aK_ (Kd.R_lower ho0 (zAE (aI_ HB.out GE690.out)));have n3_:=aK_ (zAN (g:=gb690) (o:=.cells #[.string (⟨#[112]⟩:ByteArray),.slice Ao82 y684.length co82,.int .i64 0,.slice Ao81 y687.length co81] 25 (0,0)) (aB_ BK690.out) hb);have n4_:=aK_ (zAH (aI_ HB.out GE690.out) hb);clear HO686;clear HO689;clear BK690;clear HB;have HO686:=n0_;have HO689:=n1_;have HO693:=n2_;have BK690:=n3_;have HB:=n4_;clear n0_ n1_ n2_ n3_ n4_;(try clear hb);(try clear hb2);(try clear hk);(try clear hi);(try clear ho0);have hcz88_0:w87.cell? ⟨gb690,0,none⟩=some (.string (⟨#[112]⟩:ByteArray)):=(zAB BK690.out 0).trans rfl;have hcz88_1:w87.cell? ⟨gb690,1,none⟩=some (.slice Ao82 y684.length co82):=(zAB BK690.out 1).trans rfl;have hcz88_2:w87.cell? ⟨gb690,2,none⟩=some (.int .i64 0):=(zAB BK690.out 2).trans rfl;have hcz88_3:w87.cell? ⟨gb690,3,none⟩=some (.slice Ao81 y687.length co81):=(zAB BK690.out 3).trans rfl;have hfz88_0:=zAA BK690.out 0;have hfz88_1:=zAA BK690.out 1;have hfz88_2:=zAA BK690.out 2;have hfz88_3:=zAA BK690.out 3;have q89:(1:Int)≤((y687.length:Int):Int):=aD_;obtain ⟨i089,hi089,_,hsz89,_⟩:=info_parts info33;have hcut89:=cut_to (P:=Tryd.prog) 23 33 .i64 Tryd.underlying23 hi089 Ao81 y687.length co81 1 (by omega) q89 (Kd.S_reads' HO689.out).2.1;have hr89:=Kd.S_take (m:=(1:Int).toNat) HO689.out (by omega);have hy89:y696.length=(1:Int).toNat:=(by rw [Ny696.out,List.length_take];omega);rw [← Ny696.out] at hr89;rw [← hy89] at hr89 hcut89;clear hy89 hi089 hsz89 HO689;have HO698:=aK_ hr89;clear hr89;replace q89:=eq_true q89)|((with_reducible refine gate_callee (f:=33) rfl ?_);refine goesL_ (some 29) rfl rfl Tryd.func33 (by kernel_rfl) rfl #[.agg #[.string (⟨#[112]⟩:ByteArray),.slice Ao82 y684.length co82,.int .i64 0,.slice Ao81 y696.length co81]] rfl aM_ ?_;(with_reducible refine (zAG.calls k (⟨#[112]⟩:ByteArray) _ _ y684 0 _ _ y696 t699 t702 t703 _ ?side1 ?side2 ?side3 ?side4 ?side5 A3.out).mono ?_);(case side1=>(first|(with_reducible exact hG)|((repeat (with_reducible first|exact hG|apply GW.drewN|apply GW.drew|apply GW.alloc));done)|exact GW.below hG (aI_ HB.out GE690.out)));(case side2=>refine (Kd.R_reads' (e:=47) (base:=w.heap.size) (ok:=fun k_=>True) (n:=y684.length) (c:=co82) ?_).2.2;exact (by refine aR_ ?_;exact (Kd.R_mono (Kd.R_far (p:=⟨gb690,3,none⟩) (Kd.R_types HO686.out BK690.out (by decide)) (fun _ hk=>hk.2) (.slice Ao81 y696.length co81)) (fun _ h_=>h_.1))));(case side3=>exact (Kd.R_reads' HO686.out).2.1);(case side4=>refine (Kd.S_reads' (e:=33) (base:=w.heap.size) (ok:=fun k_=>True) (n:=y696.length) (c:=co81) ?_).2.2;exact (by refine aS_ ?_;exact (Kd.S_mono (Kd.S_far (p:=⟨gb690,3,none⟩) (Kd.S_types HO698.out BK690.out (by decide)) (fun _ hk=>hk.2) (.slice Ao81 y696.length co81)) (fun _ h_=>h_.1))));(case side5=>exact (Kd.S_reads' HO698.out).2.1);rintro e w90 ⟨v700,rfl,ho0,hb⟩;refine ⟨_,rfl,?_⟩;have n0_:=aK_ (Kd.R_below (by refine aR_ ?_;exact (Kd.R_mono (Kd.R_far (p:=⟨gb690,3,none⟩) (Kd.R_types HO686.out BK690.out (by decide)) (fun _ hk=>hk.2) (.slice Ao81 y696.length co81)) (fun _ h_=>h_.1))) hb);have n1_:=aK_ (Kd.S_below (by refine aS_ ?_;exact (Kd.S_mono (Kd.S_far (p:=⟨gb690,3,none⟩) (Kd.S_types HO698.out BK690.out (by decide)) (fun _ hk=>hk.2) (.slice Ao81 y696.length co81)) (fun _ h_=>h_.1))) hb);have n2_:=aK_ (Kd.R_elder' (by refine aR_ ?_;exact (Kd.R_mono (Kd.R_far (p:=⟨gb690,3,none⟩) (Kd.R_types HO693.out BK690.out (by decide)) (fun _ hk=>hk.2) (.slice Ao81 y696.length co81)) (fun _ h_=>h_.1))) (Kd.R_base ho0) hb);have n3_:=aK_ (Kd.R_lower (Kd.R_new' ho0 (Kd.R_lt (by refine aR_ ?_;exact (Kd.R_mono (Kd.R_far (p:=⟨gb690,3,none⟩) (Kd.R_types HO693.out BK690.out (by decide)) (fun _ hk=>hk.2) (.slice Ao81 y696.length co81)) (fun _ h_=>h_.1))))) (zAE (aI_ HB.out GE690.out)));have n4_:=aK_ (zAN (g:=gb690) (o:=.cells #[.string (⟨#[112]⟩:ByteArray),.slice Ao82 y684.length co82,.int .i64 0,.slice Ao81 y696.length co81] 25 (0,0)) (by refine aB_ ?_;refine blk_put (cs:=#[.string (⟨#[112]⟩:ByteArray),.slice Ao82 y684.length co82,.int .i64 0,.slice Ao81 y687.length co81]) ?_ 3 _ rfl;refine aB_ ?_;exact BK690.out) hb);have n5_:=aK_ (zAH (aI_ HB.out GE690.out) hb);clear HO686;clear HO698;clear HO693;clear BK690;clear HB;have HO686:=n0_;have HO698:=n1_;have HO693:=n2_;have HO701:=n3_;have BK690:=n4_;have HB:=n5_;clear n0_ n1_ n2_ n3_ n4_ n5_;(try clear hb);(try clear hb2);(try clear hk);(try clear hi);(try clear ho0)))
  go_ret
  exact ⟨by first|rfl|(simp [zAL,zAK] <;> rfl)|(simp [*,zAL,zAK] <;> rfl),aI_ HB.out GE690.out⟩
 rw [if_pos c4] at H
 have c4b0:(t694 == 0)=true:=beq_iff_eq.mpr c4
 have c4b1:(t694 != 0)=false:=bne_eq_false_iff_eq.mpr c4
 clear c4
 by_cases c5:t695=0
 rotate_left
 ·rw [if_neg c5] at H
  have c5b0:(t695 == 0)=false:=beq_eq_false_iff_ne.mpr c5
  have c5b1:(t695 != 0)=true:=bne_iff_ne.mpr c5
  obtain rfl:=Option.some.inj H
  go_enter Tryd.func32,Tryd.ntmps32
  go_wp2_with (first|((with_reducible refine zAQ (N:=9) rfl ?_);(try (refine zAU (by rfl) ?_;dsimp only));refine Kd.R_lit k47 _ 47 ?hg (N:=9) ?hd (xs:=([(⟨(⟨#[97]⟩:ByteArray),1⟩:S47)]:List (S47))) (inner:=[.string (⟨#[97]⟩:ByteArray),.int .i64 1]) (ok:=fun _=>True) (okp:=fun _=>True) ?hr ?hp (fun _ hk=>hk) trivial (Below.refl _ _) (Nat.le_refl _) (by simp) ?_;(case hd=>rfl);(case hg=>rfl);(case hr=>first|(go_simp;done)|(go_simp;rfl));(case hp=>exact (Reps.c2 (show Kd.M k47 _ _ _ (⟨(⟨#[97]⟩:ByteArray),1⟩:S47) [.string (⟨#[97]⟩:ByteArray),.int .i64 1] from (k47_mkM _ _ _ (⟨(⟨#[97]⟩:ByteArray),1⟩:S47) )) (Reps.none _ _)));intro v685 w63 ho64 hb hg_ hnew_;clear hg_ hnew_;(first|rw [← Ny684.out] at ho64|(simp only [Int.reduceToNat] at ho64;rw [← Ny684.out] at ho64));have n0_:=aK_ (Kd.R_lower ho64 (zAE (aH_ HB.out)));have n1_:=aK_ (zAH (aH_ HB.out) hb);clear HB;have HO686:=n0_;have HB:=n1_;clear n0_ n1_;clear hb ho64)|((with_reducible refine zAQ (N:=15) rfl ?_);(try (refine zAU (by rfl) ?_;dsimp only));refine Kd.S_lit k33 _ 33 ?hg (N:=15) ?hd (xs:=([(⟨3,0,0,0,([]:List (S45)),0⟩:S33),(⟨2,3,0,0,([]:List (S45)),0⟩:S33),(⟨8,0,0,0,([]:List (S45)),0⟩:S33),(⟨2,5,0,0,([]:List (S45)),0⟩:S33),(⟨6,0,0,0,([]:List (S45)),0⟩:S33)]:List (S33))) (inner:=[.int .i64 3,.int .i64 0,.int .i64 0,.int .i64 0,.slice none 0 0,.int .i64 0,.int .i64 2,.int .i64 3,.int .i64 0,.int .i64 0,.slice none 0 0,.int .i64 0,.int .i64 8,.int .i64 0,.int .i64 0,.int .i64 0,.slice none 0 0,.int .i64 0,.int .i64 2,.int .i64 5,.int .i64 0,.int .i64 0,.slice none 0 0,.int .i64 0,.int .i64 6,.int .i64 0,.int .i64 0,.int .i64 0,.slice none 0 0,.int .i64 0]) (ok:=fun _=>True) (okp:=fun _=>True) ?hr ?hp (fun _ hk=>hk) trivial (Below.refl _ _) (Nat.le_refl _) (by simp) ?_;(case hd=>rfl);(case hg=>rfl);(case hr=>first|(go_simp;done)|(go_simp;rfl));(case hp=>exact (Reps.c6 (show Kd.M k33 _ _ _ (⟨3,0,0,0,([]:List (S45)),0⟩:S33) [.int .i64 3,.int .i64 0,.int .i64 0,.int .i64 0,.slice none 0 0,.int .i64 0] from (k33_mkM _ _ _ (⟨3,0,0,0,([]:List (S45)),0⟩:S33) (Kd.R_nil _ _ _ _ _))) (Reps.c6 (show Kd.M k33 _ _ _ (⟨2,3,0,0,([]:List (S45)),0⟩:S33) [.int .i64 2,.int .i64 3,.int .i64 0,.int .i64 0,.slice none 0 0,.int .i64 0] from (k33_mkM _ _ _ (⟨2,3,0,0,([]:List (S45)),0⟩:S33) (Kd.R_nil _ _ _ _ _))) (Reps.c6 (show Kd.M k33 _ _ _ (⟨8,0,0,0,([]:List (S45)),0⟩:S33) [.int .i64 8,.int .i64 0,.int .i64 0,.int .i64 0,.slice none 0 0,.int .i64 0] from (k33_mkM _ _ _ (⟨8,0,0,0,([]:List (S45)),0⟩:S33) (Kd.R_nil _ _ _ _ _))) (Reps.c6 (show Kd.M k33 _ _ _ (⟨2,5,0,0,([]:List (S45)),0⟩:S33) [.int .i64 2,.int .i64 5,.int .i64 0,.int .i64 0,.slice none 0 0,.int .i64 0] from (k33_mkM _ _ _ (⟨2,5,0,0,([]:List (S45)),0⟩:S33) (Kd.R_nil _ _ _ _ _))) (Reps.c6 (show Kd.M k33 _ _ _ (⟨6,0,0,0,([]:List (S45)),0⟩:S33) [.int .i64 6,.int .i64 0,.int .i64 0,.int .i64 0,.slice none 0 0,.int .i64 0] from (k33_mkM _ _ _ (⟨6,0,0,0,([]:List (S45)),0⟩:S33) (Kd.R_nil _ _ _ _ _))) (Reps.none _ _)))))));intro v688 w65 ho66 hb hg_ hnew_;clear hg_ hnew_;(first|rw [← Ny687.out] at ho66|(simp only [Int.reduceToNat] at ho66;rw [← Ny687.out] at ho66));have n0_:=aK_ (Kd.R_below (aR_ HO686.out) hb);have n1_:=aK_ (Kd.S_lower ho66 (zAE (aH_ HB.out)));have n2_:=aK_ (zAH (aH_ HB.out) hb);clear HO686;clear HB;have HO686:=n0_;have HO689:=n1_;have HB:=n2_;clear n0_ n1_ n2_;clear hb ho66;obtain ⟨Ao67,co67,eo67⟩:=Kd.S_slice HO689.out;subst eo67;obtain ⟨Ao68,co68,eo68⟩:=Kd.R_slice HO686.out;subst eo68)|((with_reducible refine zAQ (N:=1) rfl ?_);(try (refine zAU (by rfl) ?_;dsimp only));refine zAS ?hg (N:=1) ?hd (cs:=#[.string (⟨#[]⟩:ByteArray),.slice none 0 0,.int .i64 0,.slice none 0 0]) (t:=25) ?hr ?_;(case hd=>rfl);(case hg=>rfl);(case hr=>first|(go_simp;done)|(go_simp;rfl));intro gb690 hg w69 hbox hb;have n0_:=aK_ (Kd.R_below (aR_ HO686.out) hb);have n1_:=aK_ (Kd.S_below (aS_ HO689.out) hb);have n2_:=aK_ (zAH (aH_ HB.out) hb);have n3_:=aK_ (hbox);have n4_:=aK_ ((by rw [hg];exact (zAE (aH_ HB.out)):w.heap.size≤gb690));have n5_:=aK_ ((by rw [hg];exact (zAE (aH_ HB.out)):w.heap.size≤gb690));clear HO686;clear HO689;clear HB;have HO686:=n0_;have HO689:=n1_;have HB:=n2_;have BK690:=n3_;have GW690:=n4_;have GE690:=n5_;clear n0_ n1_ n2_ n3_ n4_ n5_;clear hb hbox hg;have hcz70_0:w69.cell? ⟨gb690,0,none⟩=some (.string (⟨#[]⟩:ByteArray)):=(zAB BK690.out 0).trans rfl;have hcz70_1:w69.cell? ⟨gb690,1,none⟩=some (.slice none 0 0):=(zAB BK690.out 1).trans rfl;have hcz70_2:w69.cell? ⟨gb690,2,none⟩=some (.int .i64 0):=(zAB BK690.out 2).trans rfl;have hcz70_3:w69.cell? ⟨gb690,3,none⟩=some (.slice none 0 0):=(zAB BK690.out 3).trans rfl;have hfz70_0:=zAA BK690.out 0;have hfz70_1:=zAA BK690.out 1;have hfz70_2:=zAA BK690.out 2;have hfz70_3:=zAA BK690.out 3)|((with_reducible refine gate_store (t:=25) (p:=1) rfl ?_);refine store_event (t:=25) (p:=1) (v:=?vo_w71) (w1:=((((w69.setCell ⟨gb690,0,none⟩ (.string (⟨#[112]⟩:ByteArray))).setCell ⟨gb690,1,none⟩ (.slice Ao68 y684.length co68)).setCell ⟨gb690,2,none⟩ (.int .i64 0)).setCell ⟨gb690,3,none⟩ (.slice Ao67 y687.length co67))) ?hg ?ho ?hn ?hr ?_;(case ho=>rfl);(case hg=>rfl);(case hn=>rfl);(case hr=>first|(go_simp;done)|(go_simp;rfl));intro w71 hw;have n0_:zAO (Kd.R k47 47 w71 w.heap.size (fun _=>True) (.slice Ao68 y684.length co68) y684):=⟨(by rw [hw];exact (by refine aR_ ?_;exact Kd.R_mono (Kd.R_far (p:=⟨gb690,3,none⟩) (Kd.R_far (p:=⟨gb690,2,none⟩) (Kd.R_far (p:=⟨gb690,1,none⟩) (Kd.R_far (p:=⟨gb690,0,none⟩) (Kd.R_types HO686.out BK690.out (by decide)) (fun _ hk=>hk.2) (.string (⟨#[112]⟩:ByteArray))) (fun _ hk=>hk.2) (.slice Ao68 y684.length co68)) (fun _ hk=>hk.2) (.int .i64 0)) (fun _ hk=>hk.2) (.slice Ao67 y687.length co67)) (fun _ hk=>trivial)))⟩;have n1_:zAO (Kd.S k33 33 w71 w.heap.size (fun _=>True) (.slice Ao67 y687.length co67) y687):=⟨(by rw [hw];exact (by refine aS_ ?_;exact Kd.S_mono (Kd.S_far (p:=⟨gb690,3,none⟩) (Kd.S_far (p:=⟨gb690,2,none⟩) (Kd.S_far (p:=⟨gb690,1,none⟩) (Kd.S_far (p:=⟨gb690,0,none⟩) (Kd.S_types HO689.out BK690.out (by decide)) (fun _ hk=>hk.2) (.string (⟨#[112]⟩:ByteArray))) (fun _ hk=>hk.2) (.slice Ao68 y684.length co68)) (fun _ hk=>hk.2) (.int .i64 0)) (fun _ hk=>hk.2) (.slice Ao67 y687.length co67)) (fun _ hk=>trivial)))⟩;have n2_:zAO (w71.heap[gb690]?=some (.cells #[.string (⟨#[112]⟩:ByteArray),.slice Ao68 y684.length co68,.int .i64 0,.slice Ao67 y687.length co67] 25 (0,0))):=⟨(by rw [hw];exact (by refine aB_ ?_;refine blk_put (cs:=#[.string (⟨#[112]⟩:ByteArray),.slice Ao68 y684.length co68,.int .i64 0,.slice none 0 0]) ?_ 3 _ rfl;refine aB_ ?_;refine blk_put (cs:=#[.string (⟨#[112]⟩:ByteArray),.slice Ao68 y684.length co68,.int .i64 0,.slice none 0 0]) ?_ 2 _ rfl;refine aB_ ?_;refine blk_put (cs:=#[.string (⟨#[112]⟩:ByteArray),.slice none 0 0,.int .i64 0,.slice none 0 0]) ?_ 1 _ rfl;refine aB_ ?_;refine blk_put (cs:=#[.string (⟨#[]⟩:ByteArray),.slice none 0 0,.int .i64 0,.slice none 0 0]) ?_ 0 _ rfl;refine aB_ ?_;exact BK690.out))⟩;have n3_:zAO (Below w.heap.size w w71):=⟨(by rw [hw];exact (aI_ HB.out GE690.out))⟩;clear hw;clear HO686;clear HO689;clear BK690;clear HB;have HO686:=n0_;have HO689:=n1_;have BK690:=n2_;have HB:=n3_;clear n0_ n1_ n2_ n3_;have hcz72_0:w71.cell? ⟨gb690,0,none⟩=some (.string (⟨#[112]⟩:ByteArray)):=(zAB BK690.out 0).trans rfl;have hcz72_1:w71.cell? ⟨gb690,1,none⟩=some (.slice Ao68 y684.length co68):=(zAB BK690.out 1).trans rfl;have hcz72_2:w71.cell? ⟨gb690,2,none⟩=some (.int .i64 0):=(zAB BK690.out 2).trans rfl;have hcz72_3:w71.cell? ⟨gb690,3,none⟩=some (.slice Ao67 y687.length co67):=(zAB BK690.out 3).trans rfl;have hfz72_0:=zAA BK690.out 0;have hfz72_1:=zAA BK690.out 1;have hfz72_2:=zAA BK690.out 2;have hfz72_3:=zAA BK690.out 3)|((with_reducible refine gate_callee (f:=33) rfl ?_);refine goesL_ (some 19) rfl rfl Tryd.func33 (by kernel_rfl) rfl #[.agg #[.string (⟨#[112]⟩:ByteArray),.slice Ao68 y684.length co68,.int .i64 0,.slice Ao67 y687.length co67]] rfl aM_ ?_;(with_reducible refine (zAG.calls k (⟨#[112]⟩:ByteArray) _ _ y684 0 _ _ y687 t691 t694 t695 _ ?side1 ?side2 ?side3 ?side4 ?side5 A1.out).mono ?_);(case side1=>(first|(with_reducible exact hG)|((repeat (with_reducible first|exact hG|apply GW.drewN|apply GW.drew|apply GW.alloc));done)|exact GW.below hG (aI_ HB.out GE690.out)));(case side2=>repeat (first|exact (Kd.R_reads' HO686.out).2.2|(with_reducible refine Kd.C_alloc ?_ _)|(with_reducible refine Kd.C_drewN ?_ _)|(with_reducible refine Kd.C_drew ?_)));(case side3=>exact (Kd.R_reads' HO686.out).2.1);(case side4=>repeat (first|exact (Kd.S_reads' HO689.out).2.2|(with_reducible refine Kd.C_alloc ?_ _)|(with_reducible refine Kd.C_drewN ?_ _)|(with_reducible refine Kd.C_drew ?_)));(case side5=>exact (Kd.S_reads' HO689.out).2.1);rintro e w73 ⟨v692,rfl,ho0,hb⟩;refine ⟨_,rfl,?_⟩;have n0_:=aK_ (Kd.R_below (aR_ HO686.out) hb);have n1_:=aK_ (Kd.S_below (aS_ HO689.out) hb);have n2_:=aK_ (Kd.R_lower ho0 (zAE (aI_ HB.out GE690.out)));have n3_:=aK_ (zAN (g:=gb690) (o:=.cells #[.string (⟨#[112]⟩:ByteArray),.slice Ao68 y684.length co68,.int .i64 0,.slice Ao67 y687.length co67] 25 (0,0)) (aB_ BK690.out) hb);have n4_:=aK_ (zAH (aI_ HB.out GE690.out) hb);clear HO686;clear HO689;clear BK690;clear HB;have HO686:=n0_;have HO689:=n1_;have HO693:=n2_;have BK690:=n3_;have HB:=n4_;clear n0_ n1_ n2_ n3_ n4_;(try clear hb);(try clear hb2);(try clear hk);(try clear hi);(try clear ho0);have hcz74_0:w73.cell? ⟨gb690,0,none⟩=some (.string (⟨#[112]⟩:ByteArray)):=(zAB BK690.out 0).trans rfl;have hcz74_1:w73.cell? ⟨gb690,1,none⟩=some (.slice Ao68 y684.length co68):=(zAB BK690.out 1).trans rfl;have hcz74_2:w73.cell? ⟨gb690,2,none⟩=some (.int .i64 0):=(zAB BK690.out 2).trans rfl;have hcz74_3:w73.cell? ⟨gb690,3,none⟩=some (.slice Ao67 y687.length co67):=(zAB BK690.out 3).trans rfl;have hfz74_0:=zAA BK690.out 0;have hfz74_1:=zAA BK690.out 1;have hfz74_2:=zAA BK690.out 2;have hfz74_3:=zAA BK690.out 3;have q75:(1:Int)≤((y687.length:Int):Int):=aD_;obtain ⟨i075,hi075,_,hsz75,_⟩:=info_parts info33;have hcut75:=cut_to (P:=Tryd.prog) 23 33 .i64 Tryd.underlying23 hi075 Ao67 y687.length co67 1 (by omega) q75 (Kd.S_reads' HO689.out).2.1;have hr75:=Kd.S_take (m:=(1:Int).toNat) HO689.out (by omega);have hy75:y696.length=(1:Int).toNat:=(by rw [Ny696.out,List.length_take];omega);rw [← Ny696.out] at hr75;rw [← hy75] at hr75 hcut75;clear hy75 hi075 hsz75 HO689;have HO698:=aK_ hr75;clear hr75;replace q75:=eq_true q75)|((with_reducible refine gate_callee (f:=33) rfl ?_);refine goesL_ (some 29) rfl rfl Tryd.func33 (by kernel_rfl) rfl #[.agg #[.string (⟨#[112]⟩:ByteArray),.slice Ao68 y684.length co68,.int .i64 0,.slice Ao67 y696.length co67]] rfl aM_ ?_;(with_reducible refine (zAG.calls k (⟨#[112]⟩:ByteArray) _ _ y684 0 _ _ y696 t699 t702 t703 _ ?side1 ?side2 ?side3 ?side4 ?side5 A3.out).mono ?_);(case side1=>(first|(with_reducible exact hG)|((repeat (with_reducible first|exact hG|apply GW.drewN|apply GW.drew|apply GW.alloc));done)|exact GW.below hG (aI_ HB.out GE690.out)));(case side2=>refine (Kd.R_reads' (e:=47) (base:=w.heap.size) (ok:=fun k_=>True) (n:=y684.length) (c:=co68) ?_).2.2;exact (by refine aR_ ?_;exact (Kd.R_mono (Kd.R_far (p:=⟨gb690,3,none⟩) (Kd.R_types HO686.out BK690.out (by decide)) (fun _ hk=>hk.2) (.slice Ao67 y696.length co67)) (fun _ h_=>h_.1))));(case side3=>exact (Kd.R_reads' HO686.out).2.1);(case side4=>refine (Kd.S_reads' (e:=33) (base:=w.heap.size) (ok:=fun k_=>True) (n:=y696.length) (c:=co67) ?_).2.2;exact (by refine aS_ ?_;exact (Kd.S_mono (Kd.S_far (p:=⟨gb690,3,none⟩) (Kd.S_types HO698.out BK690.out (by decide)) (fun _ hk=>hk.2) (.slice Ao67 y696.length co67)) (fun _ h_=>h_.1))));(case side5=>exact (Kd.S_reads' HO698.out).2.1);rintro e w76 ⟨v700,rfl,ho0,hb⟩;refine ⟨_,rfl,?_⟩;have n0_:=aK_ (Kd.R_below (by refine aR_ ?_;exact (Kd.R_mono (Kd.R_far (p:=⟨gb690,3,none⟩) (Kd.R_types HO686.out BK690.out (by decide)) (fun _ hk=>hk.2) (.slice Ao67 y696.length co67)) (fun _ h_=>h_.1))) hb);have n1_:=aK_ (Kd.S_below (by refine aS_ ?_;exact (Kd.S_mono (Kd.S_far (p:=⟨gb690,3,none⟩) (Kd.S_types HO698.out BK690.out (by decide)) (fun _ hk=>hk.2) (.slice Ao67 y696.length co67)) (fun _ h_=>h_.1))) hb);have n2_:=aK_ (Kd.R_elder' (by refine aR_ ?_;exact (Kd.R_mono (Kd.R_far (p:=⟨gb690,3,none⟩) (Kd.R_types HO693.out BK690.out (by decide)) (fun _ hk=>hk.2) (.slice Ao67 y696.length co67)) (fun _ h_=>h_.1))) (Kd.R_base ho0) hb);have n3_:=aK_ (Kd.R_lower (Kd.R_new' ho0 (Kd.R_lt (by refine aR_ ?_;exact (Kd.R_mono (Kd.R_far (p:=⟨gb690,3,none⟩) (Kd.R_types HO693.out BK690.out (by decide)) (fun _ hk=>hk.2) (.slice Ao67 y696.length co67)) (fun _ h_=>h_.1))))) (zAE (aI_ HB.out GE690.out)));have n4_:=aK_ (zAN (g:=gb690) (o:=.cells #[.string (⟨#[112]⟩:ByteArray),.slice Ao68 y684.length co68,.int .i64 0,.slice Ao67 y696.length co67] 25 (0,0)) (by refine aB_ ?_;refine blk_put (cs:=#[.string (⟨#[112]⟩:ByteArray),.slice Ao68 y684.length co68,.int .i64 0,.slice Ao67 y687.length co67]) ?_ 3 _ rfl;refine aB_ ?_;exact BK690.out) hb);have n5_:=aK_ (zAH (aI_ HB.out GE690.out) hb);clear HO686;clear HO698;clear HO693;clear BK690;clear HB;have HO686:=n0_;have HO698:=n1_;have HO693:=n2_;have HO701:=n3_;have BK690:=n4_;have HB:=n5_;clear n0_ n1_ n2_ n3_ n4_ n5_;(try clear hb);(try clear hb2);(try clear hk);(try clear hi);(try clear ho0)))
  go_ret
  exact ⟨by first|rfl|(simp [zAL,zAK] <;> rfl)|(simp [*,zAL,zAK] <;> rfl),aI_ HB.out GE690.out⟩
 rw [if_pos c5] at H
 have c5b0:(t695 == 0)=true:=beq_iff_eq.mpr c5
 have c5b1:(t695 != 0)=false:=bne_eq_false_iff_eq.mpr c5
 clear c5
 obtain ⟨y704,hy704⟩:∃ y_:List Int,y_=(([2,1,1,1,1]:List Int)):=⟨_,rfl⟩
 replace H:((zAM.f k t691 y704).bind fun t707=>(if t707=true then (if t702=0 then (some (t703 == 80)) else (some false)) else (some false)))=some r:=by first|(rw [hy704];with_reducible exact H)|(have H2_:=(Option.bind_some _ _).symm.trans H;rw [hy704];with_reducible exact H2_)|(have H2_:=(Option.bind_some _ _).symm.trans H;with_reducible exact H2_)|with_reducible exact H|(rw [hy704];exact H)|exact H
 have Ny704:=aK_ hy704
 clear hy704
 replace H:=Option.bind_eq_some_iff.mp H
 obtain ⟨t707,A60,H⟩:=H
 replace H:(if t707=true then (if t702=0 then (some (t703 == 80)) else (some false)) else (some false))=some r:=H
 have A6:=aK_ A60
 clear A60
 by_cases c7:t707=true
 rotate_left
 ·replace c7:=Bool.eq_false_iff.mpr c7
  subst c7
  have H1:(some false)=some r:=by rw [if_neg (show ¬ (false=true) by decide)] at H;exact H
  clear H
  have H:=H1
  clear H1
  obtain rfl:=Option.some.inj H
  go_enter Tryd.func32,Tryd.ntmps32
  go_wp2_with (first|((with_reducible refine zAQ (N:=9) rfl ?_);(try (refine zAU (by rfl) ?_;dsimp only));refine Kd.R_lit k47 _ 47 ?hg (N:=9) ?hd (xs:=([(⟨(⟨#[97]⟩:ByteArray),1⟩:S47)]:List (S47))) (inner:=[.string (⟨#[97]⟩:ByteArray),.int .i64 1]) (ok:=fun _=>True) (okp:=fun _=>True) ?hr ?hp (fun _ hk=>hk) trivial (Below.refl _ _) (Nat.le_refl _) (by simp) ?_;(case hd=>rfl);(case hg=>rfl);(case hr=>first|(go_simp;done)|(go_simp;rfl));(case hp=>exact (Reps.c2 (show Kd.M k47 _ _ _ (⟨(⟨#[97]⟩:ByteArray),1⟩:S47) [.string (⟨#[97]⟩:ByteArray),.int .i64 1] from (k47_mkM _ _ _ (⟨(⟨#[97]⟩:ByteArray),1⟩:S47) )) (Reps.none _ _)));intro v685 w45 ho46 hb hg_ hnew_;clear hg_ hnew_;(first|rw [← Ny684.out] at ho46|(simp only [Int.reduceToNat] at ho46;rw [← Ny684.out] at ho46));have n0_:=aK_ (Kd.R_lower ho46 (zAE (aH_ HB.out)));have n1_:=aK_ (zAH (aH_ HB.out) hb);clear HB;have HO686:=n0_;have HB:=n1_;clear n0_ n1_;clear hb ho46)|((with_reducible refine zAQ (N:=15) rfl ?_);(try (refine zAU (by rfl) ?_;dsimp only));refine Kd.S_lit k33 _ 33 ?hg (N:=15) ?hd (xs:=([(⟨3,0,0,0,([]:List (S45)),0⟩:S33),(⟨2,3,0,0,([]:List (S45)),0⟩:S33),(⟨8,0,0,0,([]:List (S45)),0⟩:S33),(⟨2,5,0,0,([]:List (S45)),0⟩:S33),(⟨6,0,0,0,([]:List (S45)),0⟩:S33)]:List (S33))) (inner:=[.int .i64 3,.int .i64 0,.int .i64 0,.int .i64 0,.slice none 0 0,.int .i64 0,.int .i64 2,.int .i64 3,.int .i64 0,.int .i64 0,.slice none 0 0,.int .i64 0,.int .i64 8,.int .i64 0,.int .i64 0,.int .i64 0,.slice none 0 0,.int .i64 0,.int .i64 2,.int .i64 5,.int .i64 0,.int .i64 0,.slice none 0 0,.int .i64 0,.int .i64 6,.int .i64 0,.int .i64 0,.int .i64 0,.slice none 0 0,.int .i64 0]) (ok:=fun _=>True) (okp:=fun _=>True) ?hr ?hp (fun _ hk=>hk) trivial (Below.refl _ _) (Nat.le_refl _) (by simp) ?_;(case hd=>rfl);(case hg=>rfl);(case hr=>first|(go_simp;done)|(go_simp;rfl));(case hp=>exact (Reps.c6 (show Kd.M k33 _ _ _ (⟨3,0,0,0,([]:List (S45)),0⟩:S33) [.int .i64 3,.int .i64 0,.int .i64 0,.int .i64 0,.slice none 0 0,.int .i64 0] from (k33_mkM _ _ _ (⟨3,0,0,0,([]:List (S45)),0⟩:S33) (Kd.R_nil _ _ _ _ _))) (Reps.c6 (show Kd.M k33 _ _ _ (⟨2,3,0,0,([]:List (S45)),0⟩:S33) [.int .i64 2,.int .i64 3,.int .i64 0,.int .i64 0,.slice none 0 0,.int .i64 0] from (k33_mkM _ _ _ (⟨2,3,0,0,([]:List (S45)),0⟩:S33) (Kd.R_nil _ _ _ _ _))) (Reps.c6 (show Kd.M k33 _ _ _ (⟨8,0,0,0,([]:List (S45)),0⟩:S33) [.int .i64 8,.int .i64 0,.int .i64 0,.int .i64 0,.slice none 0 0,.int .i64 0] from (k33_mkM _ _ _ (⟨8,0,0,0,([]:List (S45)),0⟩:S33) (Kd.R_nil _ _ _ _ _))) (Reps.c6 (show Kd.M k33 _ _ _ (⟨2,5,0,0,([]:List (S45)),0⟩:S33) [.int .i64 2,.int .i64 5,.int .i64 0,.int .i64 0,.slice none 0 0,.int .i64 0] from (k33_mkM _ _ _ (⟨2,5,0,0,([]:List (S45)),0⟩:S33) (Kd.R_nil _ _ _ _ _))) (Reps.c6 (show Kd.M k33 _ _ _ (⟨6,0,0,0,([]:List (S45)),0⟩:S33) [.int .i64 6,.int .i64 0,.int .i64 0,.int .i64 0,.slice none 0 0,.int .i64 0] from (k33_mkM _ _ _ (⟨6,0,0,0,([]:List (S45)),0⟩:S33) (Kd.R_nil _ _ _ _ _))) (Reps.none _ _)))))));intro v688 w47 ho48 hb hg_ hnew_;clear hg_ hnew_;(first|rw [← Ny687.out] at ho48|(simp only [Int.reduceToNat] at ho48;rw [← Ny687.out] at ho48));have n0_:=aK_ (Kd.R_below (aR_ HO686.out) hb);have n1_:=aK_ (Kd.S_lower ho48 (zAE (aH_ HB.out)));have n2_:=aK_ (zAH (aH_ HB.out) hb);clear HO686;clear HB;have HO686:=n0_;have HO689:=n1_;have HB:=n2_;clear n0_ n1_ n2_;clear hb ho48;obtain ⟨Ao49,co49,eo49⟩:=Kd.S_slice HO689.out;subst eo49;obtain ⟨Ao50,co50,eo50⟩:=Kd.R_slice HO686.out;subst eo50)|((with_reducible refine zAQ (N:=1) rfl ?_);(try (refine zAU (by rfl) ?_;dsimp only));refine zAS ?hg (N:=1) ?hd (cs:=#[.string (⟨#[]⟩:ByteArray),.slice none 0 0,.int .i64 0,.slice none 0 0]) (t:=25) ?hr ?_;(case hd=>rfl);(case hg=>rfl);(case hr=>first|(go_simp;done)|(go_simp;rfl));intro gb690 hg w51 hbox hb;have n0_:=aK_ (Kd.R_below (aR_ HO686.out) hb);have n1_:=aK_ (Kd.S_below (aS_ HO689.out) hb);have n2_:=aK_ (zAH (aH_ HB.out) hb);have n3_:=aK_ (hbox);have n4_:=aK_ ((by rw [hg];exact (zAE (aH_ HB.out)):w.heap.size≤gb690));have n5_:=aK_ ((by rw [hg];exact (zAE (aH_ HB.out)):w.heap.size≤gb690));clear HO686;clear HO689;clear HB;have HO686:=n0_;have HO689:=n1_;have HB:=n2_;have BK690:=n3_;have GW690:=n4_;have GE690:=n5_;clear n0_ n1_ n2_ n3_ n4_ n5_;clear hb hbox hg;have hcz52_0:w51.cell? ⟨gb690,0,none⟩=some (.string (⟨#[]⟩:ByteArray)):=(zAB BK690.out 0).trans rfl;have hcz52_1:w51.cell? ⟨gb690,1,none⟩=some (.slice none 0 0):=(zAB BK690.out 1).trans rfl;have hcz52_2:w51.cell? ⟨gb690,2,none⟩=some (.int .i64 0):=(zAB BK690.out 2).trans rfl;have hcz52_3:w51.cell? ⟨gb690,3,none⟩=some (.slice none 0 0):=(zAB BK690.out 3).trans rfl;have hfz52_0:=zAA BK690.out 0;have hfz52_1:=zAA BK690.out 1;have hfz52_2:=zAA BK690.out 2;have hfz52_3:=zAA BK690.out 3)|((with_reducible refine gate_store (t:=25) (p:=1) rfl ?_);refine store_event (t:=25) (p:=1) (v:=?vo_w53) (w1:=((((w51.setCell ⟨gb690,0,none⟩ (.string (⟨#[112]⟩:ByteArray))).setCell ⟨gb690,1,none⟩ (.slice Ao50 y684.length co50)).setCell ⟨gb690,2,none⟩ (.int .i64 0)).setCell ⟨gb690,3,none⟩ (.slice Ao49 y687.length co49))) ?hg ?ho ?hn ?hr ?_;(case ho=>rfl);(case hg=>rfl);(case hn=>rfl);(case hr=>first|(go_simp;done)|(go_simp;rfl));intro w53 hw;have n0_:zAO (Kd.R k47 47 w53 w.heap.size (fun _=>True) (.slice Ao50 y684.length co50) y684):=⟨(by rw [hw];exact (by refine aR_ ?_;exact Kd.R_mono (Kd.R_far (p:=⟨gb690,3,none⟩) (Kd.R_far (p:=⟨gb690,2,none⟩) (Kd.R_far (p:=⟨gb690,1,none⟩) (Kd.R_far (p:=⟨gb690,0,none⟩) (Kd.R_types HO686.out BK690.out (by decide)) (fun _ hk=>hk.2) (.string (⟨#[112]⟩:ByteArray))) (fun _ hk=>hk.2) (.slice Ao50 y684.length co50)) (fun _ hk=>hk.2) (.int .i64 0)) (fun _ hk=>hk.2) (.slice Ao49 y687.length co49)) (fun _ hk=>trivial)))⟩;have n1_:zAO (Kd.S k33 33 w53 w.heap.size (fun _=>True) (.slice Ao49 y687.length co49) y687):=⟨(by rw [hw];exact (by refine aS_ ?_;exact Kd.S_mono (Kd.S_far (p:=⟨gb690,3,none⟩) (Kd.S_far (p:=⟨gb690,2,none⟩) (Kd.S_far (p:=⟨gb690,1,none⟩) (Kd.S_far (p:=⟨gb690,0,none⟩) (Kd.S_types HO689.out BK690.out (by decide)) (fun _ hk=>hk.2) (.string (⟨#[112]⟩:ByteArray))) (fun _ hk=>hk.2) (.slice Ao50 y684.length co50)) (fun _ hk=>hk.2) (.int .i64 0)) (fun _ hk=>hk.2) (.slice Ao49 y687.length co49)) (fun _ hk=>trivial)))⟩;have n2_:zAO (w53.heap[gb690]?=some (.cells #[.string (⟨#[112]⟩:ByteArray),.slice Ao50 y684.length co50,.int .i64 0,.slice Ao49 y687.length co49] 25 (0,0))):=⟨(by rw [hw];exact (by refine aB_ ?_;refine blk_put (cs:=#[.string (⟨#[112]⟩:ByteArray),.slice Ao50 y684.length co50,.int .i64 0,.slice none 0 0]) ?_ 3 _ rfl;refine aB_ ?_;refine blk_put (cs:=#[.string (⟨#[112]⟩:ByteArray),.slice Ao50 y684.length co50,.int .i64 0,.slice none 0 0]) ?_ 2 _ rfl;refine aB_ ?_;refine blk_put (cs:=#[.string (⟨#[112]⟩:ByteArray),.slice none 0 0,.int .i64 0,.slice none 0 0]) ?_ 1 _ rfl;refine aB_ ?_;refine blk_put (cs:=#[.string (⟨#[]⟩:ByteArray),.slice none 0 0,.int .i64 0,.slice none 0 0]) ?_ 0 _ rfl;refine aB_ ?_;exact BK690.out))⟩;have n3_:zAO (Below w.heap.size w w53):=⟨(by rw [hw];exact (aI_ HB.out GE690.out))⟩;clear hw;clear HO686;clear HO689;clear BK690;clear HB;have HO686:=n0_;have HO689:=n1_;have BK690:=n2_;have HB:=n3_;clear n0_ n1_ n2_ n3_;have hcz54_0:w53.cell? ⟨gb690,0,none⟩=some (.string (⟨#[112]⟩:ByteArray)):=(zAB BK690.out 0).trans rfl;have hcz54_1:w53.cell? ⟨gb690,1,none⟩=some (.slice Ao50 y684.length co50):=(zAB BK690.out 1).trans rfl;have hcz54_2:w53.cell? ⟨gb690,2,none⟩=some (.int .i64 0):=(zAB BK690.out 2).trans rfl;have hcz54_3:w53.cell? ⟨gb690,3,none⟩=some (.slice Ao49 y687.length co49):=(zAB BK690.out 3).trans rfl;have hfz54_0:=zAA BK690.out 0;have hfz54_1:=zAA BK690.out 1;have hfz54_2:=zAA BK690.out 2;have hfz54_3:=zAA BK690.out 3)|((with_reducible refine gate_callee (f:=33) rfl ?_);refine goesL_ (some 19) rfl rfl Tryd.func33 (by kernel_rfl) rfl #[.agg #[.string (⟨#[112]⟩:ByteArray),.slice Ao50 y684.length co50,.int .i64 0,.slice Ao49 y687.length co49]] rfl aM_ ?_;(with_reducible refine (zAG.calls k (⟨#[112]⟩:ByteArray) _ _ y684 0 _ _ y687 t691 t694 t695 _ ?side1 ?side2 ?side3 ?side4 ?side5 A1.out).mono ?_);(case side1=>(first|(with_reducible exact hG)|((repeat (with_reducible first|exact hG|apply GW.drewN|apply GW.drew|apply GW.alloc));done)|exact GW.below hG (aI_ HB.out GE690.out)));(case side2=>repeat (first|exact (Kd.R_reads' HO686.out).2.2|(with_reducible refine Kd.C_alloc ?_ _)|(with_reducible refine Kd.C_drewN ?_ _)|(with_reducible refine Kd.C_drew ?_)));(case side3=>exact (Kd.R_reads' HO686.out).2.1);(case side4=>repeat (first|exact (Kd.S_reads' HO689.out).2.2|(with_reducible refine Kd.C_alloc ?_ _)|(with_reducible refine Kd.C_drewN ?_ _)|(with_reducible refine Kd.C_drew ?_)));(case side5=>exact (Kd.S_reads' HO689.out).2.1);rintro e w55 ⟨v692,rfl,ho0,hb⟩;refine ⟨_,rfl,?_⟩;have n0_:=aK_ (Kd.R_below (aR_ HO686.out) hb);have n1_:=aK_ (Kd.S_below (aS_ HO689.out) hb);have n2_:=aK_ (Kd.R_lower ho0 (zAE (aI_ HB.out GE690.out)));have n3_:=aK_ (zAN (g:=gb690) (o:=.cells #[.string (⟨#[112]⟩:ByteArray),.slice Ao50 y684.length co50,.int .i64 0,.slice Ao49 y687.length co49] 25 (0,0)) (aB_ BK690.out) hb);have n4_:=aK_ (zAH (aI_ HB.out GE690.out) hb);clear HO686;clear HO689;clear BK690;clear HB;have HO686:=n0_;have HO689:=n1_;have HO693:=n2_;have BK690:=n3_;have HB:=n4_;clear n0_ n1_ n2_ n3_ n4_;(try clear hb);(try clear hb2);(try clear hk);(try clear hi);(try clear ho0);have hcz56_0:w55.cell? ⟨gb690,0,none⟩=some (.string (⟨#[112]⟩:ByteArray)):=(zAB BK690.out 0).trans rfl;have hcz56_1:w55.cell? ⟨gb690,1,none⟩=some (.slice Ao50 y684.length co50):=(zAB BK690.out 1).trans rfl;have hcz56_2:w55.cell? ⟨gb690,2,none⟩=some (.int .i64 0):=(zAB BK690.out 2).trans rfl;have hcz56_3:w55.cell? ⟨gb690,3,none⟩=some (.slice Ao49 y687.length co49):=(zAB BK690.out 3).trans rfl;have hfz56_0:=zAA BK690.out 0;have hfz56_1:=zAA BK690.out 1;have hfz56_2:=zAA BK690.out 2;have hfz56_3:=zAA BK690.out 3;have q57:(1:Int)≤((y687.length:Int):Int):=aD_;obtain ⟨i057,hi057,_,hsz57,_⟩:=info_parts info33;have hcut57:=cut_to (P:=Tryd.prog) 23 33 .i64 Tryd.underlying23 hi057 Ao49 y687.length co49 1 (by omega) q57 (Kd.S_reads' HO689.out).2.1;have hr57:=Kd.S_take (m:=(1:Int).toNat) HO689.out (by omega);have hy57:y696.length=(1:Int).toNat:=(by rw [Ny696.out,List.length_take];omega);rw [← Ny696.out] at hr57;rw [← hy57] at hr57 hcut57;clear hy57 hi057 hsz57 HO689;have HO698:=aK_ hr57;clear hr57;replace q57:=eq_true q57)|((with_reducible refine gate_callee (f:=33) rfl ?_);refine goesL_ (some 29) rfl rfl Tryd.func33 (by kernel_rfl) rfl #[.agg #[.string (⟨#[112]⟩:ByteArray),.slice Ao50 y684.length co50,.int .i64 0,.slice Ao49 y696.length co49]] rfl aM_ ?_;(with_reducible refine (zAG.calls k (⟨#[112]⟩:ByteArray) _ _ y684 0 _ _ y696 t699 t702 t703 _ ?side1 ?side2 ?side3 ?side4 ?side5 A3.out).mono ?_);(case side1=>(first|(with_reducible exact hG)|((repeat (with_reducible first|exact hG|apply GW.drewN|apply GW.drew|apply GW.alloc));done)|exact GW.below hG (aI_ HB.out GE690.out)));(case side2=>refine (Kd.R_reads' (e:=47) (base:=w.heap.size) (ok:=fun k_=>True) (n:=y684.length) (c:=co50) ?_).2.2;exact (by refine aR_ ?_;exact (Kd.R_mono (Kd.R_far (p:=⟨gb690,3,none⟩) (Kd.R_types HO686.out BK690.out (by decide)) (fun _ hk=>hk.2) (.slice Ao49 y696.length co49)) (fun _ h_=>h_.1))));(case side3=>exact (Kd.R_reads' HO686.out).2.1);(case side4=>refine (Kd.S_reads' (e:=33) (base:=w.heap.size) (ok:=fun k_=>True) (n:=y696.length) (c:=co49) ?_).2.2;exact (by refine aS_ ?_;exact (Kd.S_mono (Kd.S_far (p:=⟨gb690,3,none⟩) (Kd.S_types HO698.out BK690.out (by decide)) (fun _ hk=>hk.2) (.slice Ao49 y696.length co49)) (fun _ h_=>h_.1))));(case side5=>exact (Kd.S_reads' HO698.out).2.1);rintro e w58 ⟨v700,rfl,ho0,hb⟩;refine ⟨_,rfl,?_⟩;have n0_:=aK_ (Kd.R_below (by refine aR_ ?_;exact (Kd.R_mono (Kd.R_far (p:=⟨gb690,3,none⟩) (Kd.R_types HO686.out BK690.out (by decide)) (fun _ hk=>hk.2) (.slice Ao49 y696.length co49)) (fun _ h_=>h_.1))) hb);have n1_:=aK_ (Kd.S_below (by refine aS_ ?_;exact (Kd.S_mono (Kd.S_far (p:=⟨gb690,3,none⟩) (Kd.S_types HO698.out BK690.out (by decide)) (fun _ hk=>hk.2) (.slice Ao49 y696.length co49)) (fun _ h_=>h_.1))) hb);have n2_:=aK_ (Kd.R_elder' (by refine aR_ ?_;exact (Kd.R_mono (Kd.R_far (p:=⟨gb690,3,none⟩) (Kd.R_types HO693.out BK690.out (by decide)) (fun _ hk=>hk.2) (.slice Ao49 y696.length co49)) (fun _ h_=>h_.1))) (Kd.R_base ho0) hb);have n3_:=aK_ (Kd.R_lower (Kd.R_new' ho0 (Kd.R_lt (by refine aR_ ?_;exact (Kd.R_mono (Kd.R_far (p:=⟨gb690,3,none⟩) (Kd.R_types HO693.out BK690.out (by decide)) (fun _ hk=>hk.2) (.slice Ao49 y696.length co49)) (fun _ h_=>h_.1))))) (zAE (aI_ HB.out GE690.out)));have n4_:=aK_ (zAN (g:=gb690) (o:=.cells #[.string (⟨#[112]⟩:ByteArray),.slice Ao50 y684.length co50,.int .i64 0,.slice Ao49 y696.length co49] 25 (0,0)) (by refine aB_ ?_;refine blk_put (cs:=#[.string (⟨#[112]⟩:ByteArray),.slice Ao50 y684.length co50,.int .i64 0,.slice Ao49 y687.length co49]) ?_ 3 _ rfl;refine aB_ ?_;exact BK690.out) hb);have n5_:=aK_ (zAH (aI_ HB.out GE690.out) hb);clear HO686;clear HO698;clear HO693;clear BK690;clear HB;have HO686:=n0_;have HO698:=n1_;have HO693:=n2_;have HO701:=n3_;have BK690:=n4_;have HB:=n5_;clear n0_ n1_ n2_ n3_ n4_ n5_;(try clear hb);(try clear hb2);(try clear hk);(try clear hi);(try clear ho0))|((with_reducible refine zAQ (N:=41) rfl ?_);(try (refine zAU (by rfl) ?_;dsimp only));refine Kd.R_lit (Kd.int .i64) _ 3 ?hg (N:=41) ?hd (xs:=([2,1,1,1,1]:List Int)) (inner:=[.int .i64 2,.int .i64 1,.int .i64 1,.int .i64 1,.int .i64 1]) (ok:=fun _=>True) (okp:=fun _=>True) ?hr ?hp (fun _ hk=>hk) trivial (Below.refl _ _) (Nat.le_refl _) (by simp) ?_;(case hd=>rfl);(case hg=>rfl);(case hr=>first|(go_simp;done)|(go_simp;rfl));(case hp=>exact (Reps.one (show Kd.M (Kd.int .i64) _ _ _ 2 [.int .i64 2] from rfl) (Reps.one (show Kd.M (Kd.int .i64) _ _ _ 1 [.int .i64 1] from rfl) (Reps.one (show Kd.M (Kd.int .i64) _ _ _ 1 [.int .i64 1] from rfl) (Reps.one (show Kd.M (Kd.int .i64) _ _ _ 1 [.int .i64 1] from rfl) (Reps.one (show Kd.M (Kd.int .i64) _ _ _ 1 [.int .i64 1] from rfl) (Reps.none _ _)))))));intro v705 w59 ho60 hb hg_ hnew_;clear hg_ hnew_;(first|rw [← Ny704.out] at ho60|(simp only [Int.reduceToNat] at ho60;rw [← Ny704.out] at ho60));have n0_:=aK_ (Kd.R_below (aR_ HO686.out) hb);have n1_:=aK_ (Kd.S_below (aS_ HO698.out) hb);have n2_:=aK_ (Kd.R_elder' (aR_ HO693.out) (Kd.R_base ho60) hb);have n3_:=aK_ (Kd.R_elder' (aR_ HO701.out) (Kd.R_base ho60) hb);have n4_:=aK_ (Kd.R_lower (Kd.R_new' (Kd.R_new' ho60 (Kd.R_lt (aR_ HO693.out))) (Kd.R_lt (aR_ HO701.out))) (zAE (aI_ HB.out GE690.out)));have n5_:=aK_ (zAN (g:=gb690) (o:=.cells #[.string (⟨#[112]⟩:ByteArray),.slice Ao50 y684.length co50,.int .i64 0,.slice Ao49 y696.length co49] 25 (0,0)) (aB_ BK690.out) hb);have n6_:=aK_ (zAH (aI_ HB.out GE690.out) hb);clear HO686;clear HO698;clear HO693;clear HO701;clear BK690;clear HB;have HO686:=n0_;have HO698:=n1_;have HO693:=n2_;have HO701:=n3_;have HO706:=n4_;have BK690:=n5_;have HB:=n6_;clear n0_ n1_ n2_ n3_ n4_ n5_ n6_;clear hb ho60;obtain ⟨Ao61,co61,eo61⟩:=Kd.R_slice HO693.out;subst eo61;obtain ⟨Ao62,co62,eo62⟩:=Kd.R_slice HO706.out;subst eo62)|(go_at_call 35;(with_reducible refine (zAM.calls k _ _ t691 _ _ y704 false _ ?side1 ?side2 ?side3 ?side4 A6.out).mono ?_);(case side1=>repeat (first|exact (Kd.R_reads' HO693.out).2.2|(with_reducible refine Kd.C_alloc ?_ _)|(with_reducible refine Kd.C_drewN ?_ _)|(with_reducible refine Kd.C_drew ?_)));(case side2=>exact (Kd.R_reads' HO693.out).2.1);(case side3=>repeat (first|exact (Kd.R_reads' HO706.out).2.2|(with_reducible refine Kd.C_alloc ?_ _)|(with_reducible refine Kd.C_drewN ?_ _)|(with_reducible refine Kd.C_drew ?_)));(case side4=>exact (Kd.R_reads' HO706.out).2.1);rintro e w' ⟨rfl,⟨nd,rfl⟩⟩))
  go_ret
  exact ⟨by first|rfl|(simp [zAL,zAK] <;> rfl)|(simp [*,zAL,zAK] <;> rfl),aI_ HB.out GE690.out⟩
 subst c7
 have H1:(if t702=0 then (some (t703 == 80)) else (some false))=some r:=by rw [if_pos rfl] at H;exact H
 clear H
 have H:=H1
 clear H1
 by_cases c8:t702=0
 rotate_left
 ·rw [if_neg c8] at H
  have c8b0:(t702 == 0)=false:=beq_eq_false_iff_ne.mpr c8
  have c8b1:(t702 != 0)=true:=bne_iff_ne.mpr c8
  obtain rfl:=Option.some.inj H
  go_enter Tryd.func32,Tryd.ntmps32
  go_wp2_with (first|((with_reducible refine zAQ (N:=9) rfl ?_);(try (refine zAU (by rfl) ?_;dsimp only));refine Kd.R_lit k47 _ 47 ?hg (N:=9) ?hd (xs:=([(⟨(⟨#[97]⟩:ByteArray),1⟩:S47)]:List (S47))) (inner:=[.string (⟨#[97]⟩:ByteArray),.int .i64 1]) (ok:=fun _=>True) (okp:=fun _=>True) ?hr ?hp (fun _ hk=>hk) trivial (Below.refl _ _) (Nat.le_refl _) (by simp) ?_;(case hd=>rfl);(case hg=>rfl);(case hr=>first|(go_simp;done)|(go_simp;rfl));(case hp=>exact (Reps.c2 (show Kd.M k47 _ _ _ (⟨(⟨#[97]⟩:ByteArray),1⟩:S47) [.string (⟨#[97]⟩:ByteArray),.int .i64 1] from (k47_mkM _ _ _ (⟨(⟨#[97]⟩:ByteArray),1⟩:S47) )) (Reps.none _ _)));intro v685 w27 ho28 hb hg_ hnew_;clear hg_ hnew_;(first|rw [← Ny684.out] at ho28|(simp only [Int.reduceToNat] at ho28;rw [← Ny684.out] at ho28));have n0_:=aK_ (Kd.R_lower ho28 (zAE (aH_ HB.out)));have n1_:=aK_ (zAH (aH_ HB.out) hb);clear HB;have HO686:=n0_;have HB:=n1_;clear n0_ n1_;clear hb ho28)|((with_reducible refine zAQ (N:=15) rfl ?_);(try (refine zAU (by rfl) ?_;dsimp only));refine Kd.S_lit k33 _ 33 ?hg (N:=15) ?hd (xs:=([(⟨3,0,0,0,([]:List (S45)),0⟩:S33),(⟨2,3,0,0,([]:List (S45)),0⟩:S33),(⟨8,0,0,0,([]:List (S45)),0⟩:S33),(⟨2,5,0,0,([]:List (S45)),0⟩:S33),(⟨6,0,0,0,([]:List (S45)),0⟩:S33)]:List (S33))) (inner:=[.int .i64 3,.int .i64 0,.int .i64 0,.int .i64 0,.slice none 0 0,.int .i64 0,.int .i64 2,.int .i64 3,.int .i64 0,.int .i64 0,.slice none 0 0,.int .i64 0,.int .i64 8,.int .i64 0,.int .i64 0,.int .i64 0,.slice none 0 0,.int .i64 0,.int .i64 2,.int .i64 5,.int .i64 0,.int .i64 0,.slice none 0 0,.int .i64 0,.int .i64 6,.int .i64 0,.int .i64 0,.int .i64 0,.slice none 0 0,.int .i64 0]) (ok:=fun _=>True) (okp:=fun _=>True) ?hr ?hp (fun _ hk=>hk) trivial (Below.refl _ _) (Nat.le_refl _) (by simp) ?_;(case hd=>rfl);(case hg=>rfl);(case hr=>first|(go_simp;done)|(go_simp;rfl));(case hp=>exact (Reps.c6 (show Kd.M k33 _ _ _ (⟨3,0,0,0,([]:List (S45)),0⟩:S33) [.int .i64 3,.int .i64 0,.int .i64 0,.int .i64 0,.slice none 0 0,.int .i64 0] from (k33_mkM _ _ _ (⟨3,0,0,0,([]:List (S45)),0⟩:S33) (Kd.R_nil _ _ _ _ _))) (Reps.c6 (show Kd.M k33 _ _ _ (⟨2,3,0,0,([]:List (S45)),0⟩:S33) [.int .i64 2,.int .i64 3,.int .i64 0,.int .i64 0,.slice none 0 0,.int .i64 0] from (k33_mkM _ _ _ (⟨2,3,0,0,([]:List (S45)),0⟩:S33) (Kd.R_nil _ _ _ _ _))) (Reps.c6 (show Kd.M k33 _ _ _ (⟨8,0,0,0,([]:List (S45)),0⟩:S33) [.int .i64 8,.int .i64 0,.int .i64 0,.int .i64 0,.slice none 0 0,.int .i64 0] from (k33_mkM _ _ _ (⟨8,0,0,0,([]:List (S45)),0⟩:S33) (Kd.R_nil _ _ _ _ _))) (Reps.c6 (show Kd.M k33 _ _ _ (⟨2,5,0,0,([]:List (S45)),0⟩:S33) [.int .i64 2,.int .i64 5,.int .i64 0,.int .i64 0,.slice none 0 0,.int .i64 0] from (k33_mkM _ _ _ (⟨2,5,0,0,([]:List (S45)),0⟩:S33) (Kd.R_nil _ _ _ _ _))) (Reps.c6 (show Kd.M k33 _ _ _ (⟨6,0,0,0,([]:List (S45)),0⟩:S33) [.int .i64 6,.int .i64 0,.int .i64 0,.int .i64 0,.slice none 0 0,.int .i64 0] from (k33_mkM _ _ _ (⟨6,0,0,0,([]:List (S45)),0⟩:S33) (Kd.R_nil _ _ _ _ _))) (Reps.none _ _)))))));intro v688 w29 ho30 hb hg_ hnew_;clear hg_ hnew_;(first|rw [← Ny687.out] at ho30|(simp only [Int.reduceToNat] at ho30;rw [← Ny687.out] at ho30));have n0_:=aK_ (Kd.R_below (aR_ HO686.out) hb);have n1_:=aK_ (Kd.S_lower ho30 (zAE (aH_ HB.out)));have n2_:=aK_ (zAH (aH_ HB.out) hb);clear HO686;clear HB;have HO686:=n0_;have HO689:=n1_;have HB:=n2_;clear n0_ n1_ n2_;clear hb ho30;obtain ⟨Ao31,co31,eo31⟩:=Kd.S_slice HO689.out;subst eo31;obtain ⟨Ao32,co32,eo32⟩:=Kd.R_slice HO686.out;subst eo32)|((with_reducible refine zAQ (N:=1) rfl ?_);(try (refine zAU (by rfl) ?_;dsimp only));refine zAS ?hg (N:=1) ?hd (cs:=#[.string (⟨#[]⟩:ByteArray),.slice none 0 0,.int .i64 0,.slice none 0 0]) (t:=25) ?hr ?_;(case hd=>rfl);(case hg=>rfl);(case hr=>first|(go_simp;done)|(go_simp;rfl));intro gb690 hg w33 hbox hb;have n0_:=aK_ (Kd.R_below (aR_ HO686.out) hb);have n1_:=aK_ (Kd.S_below (aS_ HO689.out) hb);have n2_:=aK_ (zAH (aH_ HB.out) hb);have n3_:=aK_ (hbox);have n4_:=aK_ ((by rw [hg];exact (zAE (aH_ HB.out)):w.heap.size≤gb690));have n5_:=aK_ ((by rw [hg];exact (zAE (aH_ HB.out)):w.heap.size≤gb690));clear HO686;clear HO689;clear HB;have HO686:=n0_;have HO689:=n1_;have HB:=n2_;have BK690:=n3_;have GW690:=n4_;have GE690:=n5_;clear n0_ n1_ n2_ n3_ n4_ n5_;clear hb hbox hg;have hcz34_0:w33.cell? ⟨gb690,0,none⟩=some (.string (⟨#[]⟩:ByteArray)):=(zAB BK690.out 0).trans rfl;have hcz34_1:w33.cell? ⟨gb690,1,none⟩=some (.slice none 0 0):=(zAB BK690.out 1).trans rfl;have hcz34_2:w33.cell? ⟨gb690,2,none⟩=some (.int .i64 0):=(zAB BK690.out 2).trans rfl;have hcz34_3:w33.cell? ⟨gb690,3,none⟩=some (.slice none 0 0):=(zAB BK690.out 3).trans rfl;have hfz34_0:=zAA BK690.out 0;have hfz34_1:=zAA BK690.out 1;have hfz34_2:=zAA BK690.out 2;have hfz34_3:=zAA BK690.out 3)|((with_reducible refine gate_store (t:=25) (p:=1) rfl ?_);refine store_event (t:=25) (p:=1) (v:=?vo_w35) (w1:=((((w33.setCell ⟨gb690,0,none⟩ (.string (⟨#[112]⟩:ByteArray))).setCell ⟨gb690,1,none⟩ (.slice Ao32 y684.length co32)).setCell ⟨gb690,2,none⟩ (.int .i64 0)).setCell ⟨gb690,3,none⟩ (.slice Ao31 y687.length co31))) ?hg ?ho ?hn ?hr ?_;(case ho=>rfl);(case hg=>rfl);(case hn=>rfl);(case hr=>first|(go_simp;done)|(go_simp;rfl));intro w35 hw;have n0_:zAO (Kd.R k47 47 w35 w.heap.size (fun _=>True) (.slice Ao32 y684.length co32) y684):=⟨(by rw [hw];exact (by refine aR_ ?_;exact Kd.R_mono (Kd.R_far (p:=⟨gb690,3,none⟩) (Kd.R_far (p:=⟨gb690,2,none⟩) (Kd.R_far (p:=⟨gb690,1,none⟩) (Kd.R_far (p:=⟨gb690,0,none⟩) (Kd.R_types HO686.out BK690.out (by decide)) (fun _ hk=>hk.2) (.string (⟨#[112]⟩:ByteArray))) (fun _ hk=>hk.2) (.slice Ao32 y684.length co32)) (fun _ hk=>hk.2) (.int .i64 0)) (fun _ hk=>hk.2) (.slice Ao31 y687.length co31)) (fun _ hk=>trivial)))⟩;have n1_:zAO (Kd.S k33 33 w35 w.heap.size (fun _=>True) (.slice Ao31 y687.length co31) y687):=⟨(by rw [hw];exact (by refine aS_ ?_;exact Kd.S_mono (Kd.S_far (p:=⟨gb690,3,none⟩) (Kd.S_far (p:=⟨gb690,2,none⟩) (Kd.S_far (p:=⟨gb690,1,none⟩) (Kd.S_far (p:=⟨gb690,0,none⟩) (Kd.S_types HO689.out BK690.out (by decide)) (fun _ hk=>hk.2) (.string (⟨#[112]⟩:ByteArray))) (fun _ hk=>hk.2) (.slice Ao32 y684.length co32)) (fun _ hk=>hk.2) (.int .i64 0)) (fun _ hk=>hk.2) (.slice Ao31 y687.length co31)) (fun _ hk=>trivial)))⟩;have n2_:zAO (w35.heap[gb690]?=some (.cells #[.string (⟨#[112]⟩:ByteArray),.slice Ao32 y684.length co32,.int .i64 0,.slice Ao31 y687.length co31] 25 (0,0))):=⟨(by rw [hw];exact (by refine aB_ ?_;refine blk_put (cs:=#[.string (⟨#[112]⟩:ByteArray),.slice Ao32 y684.length co32,.int .i64 0,.slice none 0 0]) ?_ 3 _ rfl;refine aB_ ?_;refine blk_put (cs:=#[.string (⟨#[112]⟩:ByteArray),.slice Ao32 y684.length co32,.int .i64 0,.slice none 0 0]) ?_ 2 _ rfl;refine aB_ ?_;refine blk_put (cs:=#[.string (⟨#[112]⟩:ByteArray),.slice none 0 0,.int .i64 0,.slice none 0 0]) ?_ 1 _ rfl;refine aB_ ?_;refine blk_put (cs:=#[.string (⟨#[]⟩:ByteArray),.slice none 0 0,.int .i64 0,.slice none 0 0]) ?_ 0 _ rfl;refine aB_ ?_;exact BK690.out))⟩;have n3_:zAO (Below w.heap.size w w35):=⟨(by rw [hw];exact (aI_ HB.out GE690.out))⟩;clear hw;clear HO686;clear HO689;clear BK690;clear HB;have HO686:=n0_;have HO689:=n1_;have BK690:=n2_;have HB:=n3_;clear n0_ n1_ n2_ n3_;have hcz36_0:w35.cell? ⟨gb690,0,none⟩=some (.string (⟨#[112]⟩:ByteArray)):=(zAB BK690.out 0).trans rfl;have hcz36_1:w35.cell? ⟨gb690,1,none⟩=some (.slice Ao32 y684.length co32):=(zAB BK690.out 1).trans rfl;have hcz36_2:w35.cell? ⟨gb690,2,none⟩=some (.int .i64 0):=(zAB BK690.out 2).trans rfl;have hcz36_3:w35.cell? ⟨gb690,3,none⟩=some (.slice Ao31 y687.length co31):=(zAB BK690.out 3).trans rfl;have hfz36_0:=zAA BK690.out 0;have hfz36_1:=zAA BK690.out 1;have hfz36_2:=zAA BK690.out 2;have hfz36_3:=zAA BK690.out 3)|((with_reducible refine gate_callee (f:=33) rfl ?_);refine goesL_ (some 19) rfl rfl Tryd.func33 (by kernel_rfl) rfl #[.agg #[.string (⟨#[112]⟩:ByteArray),.slice Ao32 y684.length co32,.int .i64 0,.slice Ao31 y687.length co31]] rfl aM_ ?_;(with_reducible refine (zAG.calls k (⟨#[112]⟩:ByteArray) _ _ y684 0 _ _ y687 t691 t694 t695 _ ?side1 ?side2 ?side3 ?side4 ?side5 A1.out).mono ?_);(case side1=>(first|(with_reducible exact hG)|((repeat (with_reducible first|exact hG|apply GW.drewN|apply GW.drew|apply GW.alloc));done)|exact GW.below hG (aI_ HB.out GE690.out)));(case side2=>repeat (first|exact (Kd.R_reads' HO686.out).2.2|(with_reducible refine Kd.C_alloc ?_ _)|(with_reducible refine Kd.C_drewN ?_ _)|(with_reducible refine Kd.C_drew ?_)));(case side3=>exact (Kd.R_reads' HO686.out).2.1);(case side4=>repeat (first|exact (Kd.S_reads' HO689.out).2.2|(with_reducible refine Kd.C_alloc ?_ _)|(with_reducible refine Kd.C_drewN ?_ _)|(with_reducible refine Kd.C_drew ?_)));(case side5=>exact (Kd.S_reads' HO689.out).2.1);rintro e w37 ⟨v692,rfl,ho0,hb⟩;refine ⟨_,rfl,?_⟩;have n0_:=aK_ (Kd.R_below (aR_ HO686.out) hb);have n1_:=aK_ (Kd.S_below (aS_ HO689.out) hb);have n2_:=aK_ (Kd.R_lower ho0 (zAE (aI_ HB.out GE690.out)));have n3_:=aK_ (zAN (g:=gb690) (o:=.cells #[.string (⟨#[112]⟩:ByteArray),.slice Ao32 y684.length co32,.int .i64 0,.slice Ao31 y687.length co31] 25 (0,0)) (aB_ BK690.out) hb);have n4_:=aK_ (zAH (aI_ HB.out GE690.out) hb);clear HO686;clear HO689;clear BK690;clear HB;have HO686:=n0_;have HO689:=n1_;have HO693:=n2_;have BK690:=n3_;have HB:=n4_;clear n0_ n1_ n2_ n3_ n4_;(try clear hb);(try clear hb2);(try clear hk);(try clear hi);(try clear ho0);have hcz38_0:w37.cell? ⟨gb690,0,none⟩=some (.string (⟨#[112]⟩:ByteArray)):=(zAB BK690.out 0).trans rfl;have hcz38_1:w37.cell? ⟨gb690,1,none⟩=some (.slice Ao32 y684.length co32):=(zAB BK690.out 1).trans rfl;have hcz38_2:w37.cell? ⟨gb690,2,none⟩=some (.int .i64 0):=(zAB BK690.out 2).trans rfl;have hcz38_3:w37.cell? ⟨gb690,3,none⟩=some (.slice Ao31 y687.length co31):=(zAB BK690.out 3).trans rfl;have hfz38_0:=zAA BK690.out 0;have hfz38_1:=zAA BK690.out 1;have hfz38_2:=zAA BK690.out 2;have hfz38_3:=zAA BK690.out 3;have q39:(1:Int)≤((y687.length:Int):Int):=aD_;obtain ⟨i039,hi039,_,hsz39,_⟩:=info_parts info33;have hcut39:=cut_to (P:=Tryd.prog) 23 33 .i64 Tryd.underlying23 hi039 Ao31 y687.length co31 1 (by omega) q39 (Kd.S_reads' HO689.out).2.1;have hr39:=Kd.S_take (m:=(1:Int).toNat) HO689.out (by omega);have hy39:y696.length=(1:Int).toNat:=(by rw [Ny696.out,List.length_take];omega);rw [← Ny696.out] at hr39;rw [← hy39] at hr39 hcut39;clear hy39 hi039 hsz39 HO689;have HO698:=aK_ hr39;clear hr39;replace q39:=eq_true q39)|((with_reducible refine gate_callee (f:=33) rfl ?_);refine goesL_ (some 29) rfl rfl Tryd.func33 (by kernel_rfl) rfl #[.agg #[.string (⟨#[112]⟩:ByteArray),.slice Ao32 y684.length co32,.int .i64 0,.slice Ao31 y696.length co31]] rfl aM_ ?_;(with_reducible refine (zAG.calls k (⟨#[112]⟩:ByteArray) _ _ y684 0 _ _ y696 t699 t702 t703 _ ?side1 ?side2 ?side3 ?side4 ?side5 A3.out).mono ?_);(case side1=>(first|(with_reducible exact hG)|((repeat (with_reducible first|exact hG|apply GW.drewN|apply GW.drew|apply GW.alloc));done)|exact GW.below hG (aI_ HB.out GE690.out)));(case side2=>refine (Kd.R_reads' (e:=47) (base:=w.heap.size) (ok:=fun k_=>True) (n:=y684.length) (c:=co32) ?_).2.2;exact (by refine aR_ ?_;exact (Kd.R_mono (Kd.R_far (p:=⟨gb690,3,none⟩) (Kd.R_types HO686.out BK690.out (by decide)) (fun _ hk=>hk.2) (.slice Ao31 y696.length co31)) (fun _ h_=>h_.1))));(case side3=>exact (Kd.R_reads' HO686.out).2.1);(case side4=>refine (Kd.S_reads' (e:=33) (base:=w.heap.size) (ok:=fun k_=>True) (n:=y696.length) (c:=co31) ?_).2.2;exact (by refine aS_ ?_;exact (Kd.S_mono (Kd.S_far (p:=⟨gb690,3,none⟩) (Kd.S_types HO698.out BK690.out (by decide)) (fun _ hk=>hk.2) (.slice Ao31 y696.length co31)) (fun _ h_=>h_.1))));(case side5=>exact (Kd.S_reads' HO698.out).2.1);rintro e w40 ⟨v700,rfl,ho0,hb⟩;refine ⟨_,rfl,?_⟩;have n0_:=aK_ (Kd.R_below (by refine aR_ ?_;exact (Kd.R_mono (Kd.R_far (p:=⟨gb690,3,none⟩) (Kd.R_types HO686.out BK690.out (by decide)) (fun _ hk=>hk.2) (.slice Ao31 y696.length co31)) (fun _ h_=>h_.1))) hb);have n1_:=aK_ (Kd.S_below (by refine aS_ ?_;exact (Kd.S_mono (Kd.S_far (p:=⟨gb690,3,none⟩) (Kd.S_types HO698.out BK690.out (by decide)) (fun _ hk=>hk.2) (.slice Ao31 y696.length co31)) (fun _ h_=>h_.1))) hb);have n2_:=aK_ (Kd.R_elder' (by refine aR_ ?_;exact (Kd.R_mono (Kd.R_far (p:=⟨gb690,3,none⟩) (Kd.R_types HO693.out BK690.out (by decide)) (fun _ hk=>hk.2) (.slice Ao31 y696.length co31)) (fun _ h_=>h_.1))) (Kd.R_base ho0) hb);have n3_:=aK_ (Kd.R_lower (Kd.R_new' ho0 (Kd.R_lt (by refine aR_ ?_;exact (Kd.R_mono (Kd.R_far (p:=⟨gb690,3,none⟩) (Kd.R_types HO693.out BK690.out (by decide)) (fun _ hk=>hk.2) (.slice Ao31 y696.length co31)) (fun _ h_=>h_.1))))) (zAE (aI_ HB.out GE690.out)));have n4_:=aK_ (zAN (g:=gb690) (o:=.cells #[.string (⟨#[112]⟩:ByteArray),.slice Ao32 y684.length co32,.int .i64 0,.slice Ao31 y696.length co31] 25 (0,0)) (by refine aB_ ?_;refine blk_put (cs:=#[.string (⟨#[112]⟩:ByteArray),.slice Ao32 y684.length co32,.int .i64 0,.slice Ao31 y687.length co31]) ?_ 3 _ rfl;refine aB_ ?_;exact BK690.out) hb);have n5_:=aK_ (zAH (aI_ HB.out GE690.out) hb);clear HO686;clear HO698;clear HO693;clear BK690;clear HB;have HO686:=n0_;have HO698:=n1_;have HO693:=n2_;have HO701:=n3_;have BK690:=n4_;have HB:=n5_;clear n0_ n1_ n2_ n3_ n4_ n5_;(try clear hb);(try clear hb2);(try clear hk);(try clear hi);(try clear ho0))|((with_reducible refine zAQ (N:=41) rfl ?_);(try (refine zAU (by rfl) ?_;dsimp only));refine Kd.R_lit (Kd.int .i64) _ 3 ?hg (N:=41) ?hd (xs:=([2,1,1,1,1]:List Int)) (inner:=[.int .i64 2,.int .i64 1,.int .i64 1,.int .i64 1,.int .i64 1]) (ok:=fun _=>True) (okp:=fun _=>True) ?hr ?hp (fun _ hk=>hk) trivial (Below.refl _ _) (Nat.le_refl _) (by simp) ?_;(case hd=>rfl);(case hg=>rfl);(case hr=>first|(go_simp;done)|(go_simp;rfl));(case hp=>exact (Reps.one (show Kd.M (Kd.int .i64) _ _ _ 2 [.int .i64 2] from rfl) (Reps.one (show Kd.M (Kd.int .i64) _ _ _ 1 [.int .i64 1] from rfl) (Reps.one (show Kd.M (Kd.int .i64) _ _ _ 1 [.int .i64 1] from rfl) (Reps.one (show Kd.M (Kd.int .i64) _ _ _ 1 [.int .i64 1] from rfl) (Reps.one (show Kd.M (Kd.int .i64) _ _ _ 1 [.int .i64 1] from rfl) (Reps.none _ _)))))));intro v705 w41 ho42 hb hg_ hnew_;clear hg_ hnew_;(first|rw [← Ny704.out] at ho42|(simp only [Int.reduceToNat] at ho42;rw [← Ny704.out] at ho42));have n0_:=aK_ (Kd.R_below (aR_ HO686.out) hb);have n1_:=aK_ (Kd.S_below (aS_ HO698.out) hb);have n2_:=aK_ (Kd.R_elder' (aR_ HO693.out) (Kd.R_base ho42) hb);have n3_:=aK_ (Kd.R_elder' (aR_ HO701.out) (Kd.R_base ho42) hb);have n4_:=aK_ (Kd.R_lower (Kd.R_new' (Kd.R_new' ho42 (Kd.R_lt (aR_ HO693.out))) (Kd.R_lt (aR_ HO701.out))) (zAE (aI_ HB.out GE690.out)));have n5_:=aK_ (zAN (g:=gb690) (o:=.cells #[.string (⟨#[112]⟩:ByteArray),.slice Ao32 y684.length co32,.int .i64 0,.slice Ao31 y696.length co31] 25 (0,0)) (aB_ BK690.out) hb);have n6_:=aK_ (zAH (aI_ HB.out GE690.out) hb);clear HO686;clear HO698;clear HO693;clear HO701;clear BK690;clear HB;have HO686:=n0_;have HO698:=n1_;have HO693:=n2_;have HO701:=n3_;have HO706:=n4_;have BK690:=n5_;have HB:=n6_;clear n0_ n1_ n2_ n3_ n4_ n5_ n6_;clear hb ho42;obtain ⟨Ao43,co43,eo43⟩:=Kd.R_slice HO693.out;subst eo43;obtain ⟨Ao44,co44,eo44⟩:=Kd.R_slice HO706.out;subst eo44)|(go_at_call 35;(with_reducible refine (zAM.calls k _ _ t691 _ _ y704 true _ ?side1 ?side2 ?side3 ?side4 A6.out).mono ?_);(case side1=>repeat (first|exact (Kd.R_reads' HO693.out).2.2|(with_reducible refine Kd.C_alloc ?_ _)|(with_reducible refine Kd.C_drewN ?_ _)|(with_reducible refine Kd.C_drew ?_)));(case side2=>exact (Kd.R_reads' HO693.out).2.1);(case side3=>repeat (first|exact (Kd.R_reads' HO706.out).2.2|(with_reducible refine Kd.C_alloc ?_ _)|(with_reducible refine Kd.C_drewN ?_ _)|(with_reducible refine Kd.C_drew ?_)));(case side4=>exact (Kd.R_reads' HO706.out).2.1);rintro e w' ⟨rfl,⟨nd,rfl⟩⟩))
  go_ret
  exact ⟨by first|rfl|(simp [zAL,zAK] <;> rfl)|(simp [*,zAL,zAK] <;> rfl),aI_ HB.out GE690.out⟩
 rw [if_pos c8] at H
 have c8b0:(t702 == 0)=true:=beq_iff_eq.mpr c8
 have c8b1:(t702 != 0)=false:=bne_eq_false_iff_eq.mpr c8
 clear c8
 obtain rfl:=Option.some.inj H
 go_enter Tryd.func32,Tryd.ntmps32
 go_wp2_with (first|((with_reducible refine zAQ (N:=9) rfl ?_);(try (refine zAU (by rfl) ?_;dsimp only));refine Kd.R_lit k47 _ 47 ?hg (N:=9) ?hd (xs:=([(⟨(⟨#[97]⟩:ByteArray),1⟩:S47)]:List (S47))) (inner:=[.string (⟨#[97]⟩:ByteArray),.int .i64 1]) (ok:=fun _=>True) (okp:=fun _=>True) ?hr ?hp (fun _ hk=>hk) trivial (Below.refl _ _) (Nat.le_refl _) (by simp) ?_;(case hd=>rfl);(case hg=>rfl);(case hr=>first|(go_simp;done)|(go_simp;rfl));(case hp=>exact (Reps.c2 (show Kd.M k47 _ _ _ (⟨(⟨#[97]⟩:ByteArray),1⟩:S47) [.string (⟨#[97]⟩:ByteArray),.int .i64 1] from (k47_mkM _ _ _ (⟨(⟨#[97]⟩:ByteArray),1⟩:S47) )) (Reps.none _ _)));intro v685 w9 ho10 hb hg_ hnew_;clear hg_ hnew_;(first|rw [← Ny684.out] at ho10|(simp only [Int.reduceToNat] at ho10;rw [← Ny684.out] at ho10));have n0_:=aK_ (Kd.R_lower ho10 (zAE (aH_ HB.out)));have n1_:=aK_ (zAH (aH_ HB.out) hb);clear HB;have HO686:=n0_;have HB:=n1_;clear n0_ n1_;clear hb ho10)|((with_reducible refine zAQ (N:=15) rfl ?_);(try (refine zAU (by rfl) ?_;dsimp only));refine Kd.S_lit k33 _ 33 ?hg (N:=15) ?hd (xs:=([(⟨3,0,0,0,([]:List (S45)),0⟩:S33),(⟨2,3,0,0,([]:List (S45)),0⟩:S33),(⟨8,0,0,0,([]:List (S45)),0⟩:S33),(⟨2,5,0,0,([]:List (S45)),0⟩:S33),(⟨6,0,0,0,([]:List (S45)),0⟩:S33)]:List (S33))) (inner:=[.int .i64 3,.int .i64 0,.int .i64 0,.int .i64 0,.slice none 0 0,.int .i64 0,.int .i64 2,.int .i64 3,.int .i64 0,.int .i64 0,.slice none 0 0,.int .i64 0,.int .i64 8,.int .i64 0,.int .i64 0,.int .i64 0,.slice none 0 0,.int .i64 0,.int .i64 2,.int .i64 5,.int .i64 0,.int .i64 0,.slice none 0 0,.int .i64 0,.int .i64 6,.int .i64 0,.int .i64 0,.int .i64 0,.slice none 0 0,.int .i64 0]) (ok:=fun _=>True) (okp:=fun _=>True) ?hr ?hp (fun _ hk=>hk) trivial (Below.refl _ _) (Nat.le_refl _) (by simp) ?_;(case hd=>rfl);(case hg=>rfl);(case hr=>first|(go_simp;done)|(go_simp;rfl));(case hp=>exact (Reps.c6 (show Kd.M k33 _ _ _ (⟨3,0,0,0,([]:List (S45)),0⟩:S33) [.int .i64 3,.int .i64 0,.int .i64 0,.int .i64 0,.slice none 0 0,.int .i64 0] from (k33_mkM _ _ _ (⟨3,0,0,0,([]:List (S45)),0⟩:S33) (Kd.R_nil _ _ _ _ _))) (Reps.c6 (show Kd.M k33 _ _ _ (⟨2,3,0,0,([]:List (S45)),0⟩:S33) [.int .i64 2,.int .i64 3,.int .i64 0,.int .i64 0,.slice none 0 0,.int .i64 0] from (k33_mkM _ _ _ (⟨2,3,0,0,([]:List (S45)),0⟩:S33) (Kd.R_nil _ _ _ _ _))) (Reps.c6 (show Kd.M k33 _ _ _ (⟨8,0,0,0,([]:List (S45)),0⟩:S33) [.int .i64 8,.int .i64 0,.int .i64 0,.int .i64 0,.slice none 0 0,.int .i64 0] from (k33_mkM _ _ _ (⟨8,0,0,0,([]:List (S45)),0⟩:S33) (Kd.R_nil _ _ _ _ _))) (Reps.c6 (show Kd.M k33 _ _ _ (⟨2,5,0,0,([]:List (S45)),0⟩:S33) [.int .i64 2,.int .i64 5,.int .i64 0,.int .i64 0,.slice none 0 0,.int .i64 0] from (k33_mkM _ _ _ (⟨2,5,0,0,([]:List (S45)),0⟩:S33) (Kd.R_nil _ _ _ _ _))) (Reps.c6 (show Kd.M k33 _ _ _ (⟨6,0,0,0,([]:List (S45)),0⟩:S33) [.int .i64 6,.int .i64 0,.int .i64 0,.int .i64 0,.slice none 0 0,.int .i64 0] from (k33_mkM _ _ _ (⟨6,0,0,0,([]:List (S45)),0⟩:S33) (Kd.R_nil _ _ _ _ _))) (Reps.none _ _)))))));intro v688 w11 ho12 hb hg_ hnew_;clear hg_ hnew_;(first|rw [← Ny687.out] at ho12|(simp only [Int.reduceToNat] at ho12;rw [← Ny687.out] at ho12));have n0_:=aK_ (Kd.R_below (aR_ HO686.out) hb);have n1_:=aK_ (Kd.S_lower ho12 (zAE (aH_ HB.out)));have n2_:=aK_ (zAH (aH_ HB.out) hb);clear HO686;clear HB;have HO686:=n0_;have HO689:=n1_;have HB:=n2_;clear n0_ n1_ n2_;clear hb ho12;obtain ⟨Ao13,co13,eo13⟩:=Kd.S_slice HO689.out;subst eo13;obtain ⟨Ao14,co14,eo14⟩:=Kd.R_slice HO686.out;subst eo14)|((with_reducible refine zAQ (N:=1) rfl ?_);(try (refine zAU (by rfl) ?_;dsimp only));refine zAS ?hg (N:=1) ?hd (cs:=#[.string (⟨#[]⟩:ByteArray),.slice none 0 0,.int .i64 0,.slice none 0 0]) (t:=25) ?hr ?_;(case hd=>rfl);(case hg=>rfl);(case hr=>first|(go_simp;done)|(go_simp;rfl));intro gb690 hg w15 hbox hb;have n0_:=aK_ (Kd.R_below (aR_ HO686.out) hb);have n1_:=aK_ (Kd.S_below (aS_ HO689.out) hb);have n2_:=aK_ (zAH (aH_ HB.out) hb);have n3_:=aK_ (hbox);have n4_:=aK_ ((by rw [hg];exact (zAE (aH_ HB.out)):w.heap.size≤gb690));have n5_:=aK_ ((by rw [hg];exact (zAE (aH_ HB.out)):w.heap.size≤gb690));clear HO686;clear HO689;clear HB;have HO686:=n0_;have HO689:=n1_;have HB:=n2_;have BK690:=n3_;have GW690:=n4_;have GE690:=n5_;clear n0_ n1_ n2_ n3_ n4_ n5_;clear hb hbox hg;have hcz16_0:w15.cell? ⟨gb690,0,none⟩=some (.string (⟨#[]⟩:ByteArray)):=(zAB BK690.out 0).trans rfl;have hcz16_1:w15.cell? ⟨gb690,1,none⟩=some (.slice none 0 0):=(zAB BK690.out 1).trans rfl;have hcz16_2:w15.cell? ⟨gb690,2,none⟩=some (.int .i64 0):=(zAB BK690.out 2).trans rfl;have hcz16_3:w15.cell? ⟨gb690,3,none⟩=some (.slice none 0 0):=(zAB BK690.out 3).trans rfl;have hfz16_0:=zAA BK690.out 0;have hfz16_1:=zAA BK690.out 1;have hfz16_2:=zAA BK690.out 2;have hfz16_3:=zAA BK690.out 3)|((with_reducible refine gate_store (t:=25) (p:=1) rfl ?_);refine store_event (t:=25) (p:=1) (v:=?vo_w17) (w1:=((((w15.setCell ⟨gb690,0,none⟩ (.string (⟨#[112]⟩:ByteArray))).setCell ⟨gb690,1,none⟩ (.slice Ao14 y684.length co14)).setCell ⟨gb690,2,none⟩ (.int .i64 0)).setCell ⟨gb690,3,none⟩ (.slice Ao13 y687.length co13))) ?hg ?ho ?hn ?hr ?_;(case ho=>rfl);(case hg=>rfl);(case hn=>rfl);(case hr=>first|(go_simp;done)|(go_simp;rfl));intro w17 hw;have n0_:zAO (Kd.R k47 47 w17 w.heap.size (fun _=>True) (.slice Ao14 y684.length co14) y684):=⟨(by rw [hw];exact (by refine aR_ ?_;exact Kd.R_mono (Kd.R_far (p:=⟨gb690,3,none⟩) (Kd.R_far (p:=⟨gb690,2,none⟩) (Kd.R_far (p:=⟨gb690,1,none⟩) (Kd.R_far (p:=⟨gb690,0,none⟩) (Kd.R_types HO686.out BK690.out (by decide)) (fun _ hk=>hk.2) (.string (⟨#[112]⟩:ByteArray))) (fun _ hk=>hk.2) (.slice Ao14 y684.length co14)) (fun _ hk=>hk.2) (.int .i64 0)) (fun _ hk=>hk.2) (.slice Ao13 y687.length co13)) (fun _ hk=>trivial)))⟩;have n1_:zAO (Kd.S k33 33 w17 w.heap.size (fun _=>True) (.slice Ao13 y687.length co13) y687):=⟨(by rw [hw];exact (by refine aS_ ?_;exact Kd.S_mono (Kd.S_far (p:=⟨gb690,3,none⟩) (Kd.S_far (p:=⟨gb690,2,none⟩) (Kd.S_far (p:=⟨gb690,1,none⟩) (Kd.S_far (p:=⟨gb690,0,none⟩) (Kd.S_types HO689.out BK690.out (by decide)) (fun _ hk=>hk.2) (.string (⟨#[112]⟩:ByteArray))) (fun _ hk=>hk.2) (.slice Ao14 y684.length co14)) (fun _ hk=>hk.2) (.int .i64 0)) (fun _ hk=>hk.2) (.slice Ao13 y687.length co13)) (fun _ hk=>trivial)))⟩;have n2_:zAO (w17.heap[gb690]?=some (.cells #[.string (⟨#[112]⟩:ByteArray),.slice Ao14 y684.length co14,.int .i64 0,.slice Ao13 y687.length co13] 25 (0,0))):=⟨(by rw [hw];exact (by refine aB_ ?_;refine blk_put (cs:=#[.string (⟨#[112]⟩:ByteArray),.slice Ao14 y684.length co14,.int .i64 0,.slice none 0 0]) ?_ 3 _ rfl;refine aB_ ?_;refine blk_put (cs:=#[.string (⟨#[112]⟩:ByteArray),.slice Ao14 y684.length co14,.int .i64 0,.slice none 0 0]) ?_ 2 _ rfl;refine aB_ ?_;refine blk_put (cs:=#[.string (⟨#[112]⟩:ByteArray),.slice none 0 0,.int .i64 0,.slice none 0 0]) ?_ 1 _ rfl;refine aB_ ?_;refine blk_put (cs:=#[.string (⟨#[]⟩:ByteArray),.slice none 0 0,.int .i64 0,.slice none 0 0]) ?_ 0 _ rfl;refine aB_ ?_;exact BK690.out))⟩;have n3_:zAO (Below w.heap.size w w17):=⟨(by rw [hw];exact (aI_ HB.out GE690.out))⟩;clear hw;clear HO686;clear HO689;clear BK690;clear HB;have HO686:=n0_;have HO689:=n1_;have BK690:=n2_;have HB:=n3_;clear n0_ n1_ n2_ n3_;have hcz18_0:w17.cell? ⟨gb690,0,none⟩=some (.string (⟨#[112]⟩:ByteArray)):=(zAB BK690.out 0).trans rfl;have hcz18_1:w17.cell? ⟨gb690,1,none⟩=some (.slice Ao14 y684.length co14):=(zAB BK690.out 1).trans rfl;have hcz18_2:w17.cell? ⟨gb690,2,none⟩=some (.int .i64 0):=(zAB BK690.out 2).trans rfl;have hcz18_3:w17.cell? ⟨gb690,3,none⟩=some (.slice Ao13 y687.length co13):=(zAB BK690.out 3).trans rfl;have hfz18_0:=zAA BK690.out 0;have hfz18_1:=zAA BK690.out 1;have hfz18_2:=zAA BK690.out 2;have hfz18_3:=zAA BK690.out 3)|((with_reducible refine gate_callee (f:=33) rfl ?_);refine goesL_ (some 19) rfl rfl Tryd.func33 (by kernel_rfl) rfl #[.agg #[.string (⟨#[112]⟩:ByteArray),.slice Ao14 y684.length co14,.int .i64 0,.slice Ao13 y687.length co13]] rfl aM_ ?_;(with_reducible refine (zAG.calls k (⟨#[112]⟩:ByteArray) _ _ y684 0 _ _ y687 t691 t694 t695 _ ?side1 ?side2 ?side3 ?side4 ?side5 A1.out).mono ?_);(case side1=>(first|(with_reducible exact hG)|((repeat (with_reducible first|exact hG|apply GW.drewN|apply GW.drew|apply GW.alloc));done)|exact GW.below hG (aI_ HB.out GE690.out)));(case side2=>repeat (first|exact (Kd.R_reads' HO686.out).2.2|(with_reducible refine Kd.C_alloc ?_ _)|(with_reducible refine Kd.C_drewN ?_ _)|(with_reducible refine Kd.C_drew ?_)));(case side3=>exact (Kd.R_reads' HO686.out).2.1);(case side4=>repeat (first|exact (Kd.S_reads' HO689.out).2.2|(with_reducible refine Kd.C_alloc ?_ _)|(with_reducible refine Kd.C_drewN ?_ _)|(with_reducible refine Kd.C_drew ?_)));(case side5=>exact (Kd.S_reads' HO689.out).2.1);rintro e w19 ⟨v692,rfl,ho0,hb⟩;refine ⟨_,rfl,?_⟩;have n0_:=aK_ (Kd.R_below (aR_ HO686.out) hb);have n1_:=aK_ (Kd.S_below (aS_ HO689.out) hb);have n2_:=aK_ (Kd.R_lower ho0 (zAE (aI_ HB.out GE690.out)));have n3_:=aK_ (zAN (g:=gb690) (o:=.cells #[.string (⟨#[112]⟩:ByteArray),.slice Ao14 y684.length co14,.int .i64 0,.slice Ao13 y687.length co13] 25 (0,0)) (aB_ BK690.out) hb);have n4_:=aK_ (zAH (aI_ HB.out GE690.out) hb);clear HO686;clear HO689;clear BK690;clear HB;have HO686:=n0_;have HO689:=n1_;have HO693:=n2_;have BK690:=n3_;have HB:=n4_;clear n0_ n1_ n2_ n3_ n4_;(try clear hb);(try clear hb2);(try clear hk);(try clear hi);(try clear ho0);have hcz20_0:w19.cell? ⟨gb690,0,none⟩=some (.string (⟨#[112]⟩:ByteArray)):=(zAB BK690.out 0).trans rfl;have hcz20_1:w19.cell? ⟨gb690,1,none⟩=some (.slice Ao14 y684.length co14):=(zAB BK690.out 1).trans rfl;have hcz20_2:w19.cell? ⟨gb690,2,none⟩=some (.int .i64 0):=(zAB BK690.out 2).trans rfl;have hcz20_3:w19.cell? ⟨gb690,3,none⟩=some (.slice Ao13 y687.length co13):=(zAB BK690.out 3).trans rfl;have hfz20_0:=zAA BK690.out 0;have hfz20_1:=zAA BK690.out 1;have hfz20_2:=zAA BK690.out 2;have hfz20_3:=zAA BK690.out 3;have q21:(1:Int)≤((y687.length:Int):Int):=aD_;obtain ⟨i021,hi021,_,hsz21,_⟩:=info_parts info33;have hcut21:=cut_to (P:=Tryd.prog) 23 33 .i64 Tryd.underlying23 hi021 Ao13 y687.length co13 1 (by omega) q21 (Kd.S_reads' HO689.out).2.1;have hr21:=Kd.S_take (m:=(1:Int).toNat) HO689.out (by omega);have hy21:y696.length=(1:Int).toNat:=(by rw [Ny696.out,List.length_take];omega);rw [← Ny696.out] at hr21;rw [← hy21] at hr21 hcut21;clear hy21 hi021 hsz21 HO689;have HO698:=aK_ hr21;clear hr21;replace q21:=eq_true q21)|((with_reducible refine gate_callee (f:=33) rfl ?_);refine goesL_ (some 29) rfl rfl Tryd.func33 (by kernel_rfl) rfl #[.agg #[.string (⟨#[112]⟩:ByteArray),.slice Ao14 y684.length co14,.int .i64 0,.slice Ao13 y696.length co13]] rfl aM_ ?_;(with_reducible refine (zAG.calls k (⟨#[112]⟩:ByteArray) _ _ y684 0 _ _ y696 t699 t702 t703 _ ?side1 ?side2 ?side3 ?side4 ?side5 A3.out).mono ?_);(case side1=>(first|(with_reducible exact hG)|((repeat (with_reducible first|exact hG|apply GW.drewN|apply GW.drew|apply GW.alloc));done)|exact GW.below hG (aI_ HB.out GE690.out)));(case side2=>refine (Kd.R_reads' (e:=47) (base:=w.heap.size) (ok:=fun k_=>True) (n:=y684.length) (c:=co14) ?_).2.2;exact (by refine aR_ ?_;exact (Kd.R_mono (Kd.R_far (p:=⟨gb690,3,none⟩) (Kd.R_types HO686.out BK690.out (by decide)) (fun _ hk=>hk.2) (.slice Ao13 y696.length co13)) (fun _ h_=>h_.1))));(case side3=>exact (Kd.R_reads' HO686.out).2.1);(case side4=>refine (Kd.S_reads' (e:=33) (base:=w.heap.size) (ok:=fun k_=>True) (n:=y696.length) (c:=co13) ?_).2.2;exact (by refine aS_ ?_;exact (Kd.S_mono (Kd.S_far (p:=⟨gb690,3,none⟩) (Kd.S_types HO698.out BK690.out (by decide)) (fun _ hk=>hk.2) (.slice Ao13 y696.length co13)) (fun _ h_=>h_.1))));(case side5=>exact (Kd.S_reads' HO698.out).2.1);rintro e w22 ⟨v700,rfl,ho0,hb⟩;refine ⟨_,rfl,?_⟩;have n0_:=aK_ (Kd.R_below (by refine aR_ ?_;exact (Kd.R_mono (Kd.R_far (p:=⟨gb690,3,none⟩) (Kd.R_types HO686.out BK690.out (by decide)) (fun _ hk=>hk.2) (.slice Ao13 y696.length co13)) (fun _ h_=>h_.1))) hb);have n1_:=aK_ (Kd.S_below (by refine aS_ ?_;exact (Kd.S_mono (Kd.S_far (p:=⟨gb690,3,none⟩) (Kd.S_types HO698.out BK690.out (by decide)) (fun _ hk=>hk.2) (.slice Ao13 y696.length co13)) (fun _ h_=>h_.1))) hb);have n2_:=aK_ (Kd.R_elder' (by refine aR_ ?_;exact (Kd.R_mono (Kd.R_far (p:=⟨gb690,3,none⟩) (Kd.R_types HO693.out BK690.out (by decide)) (fun _ hk=>hk.2) (.slice Ao13 y696.length co13)) (fun _ h_=>h_.1))) (Kd.R_base ho0) hb);have n3_:=aK_ (Kd.R_lower (Kd.R_new' ho0 (Kd.R_lt (by refine aR_ ?_;exact (Kd.R_mono (Kd.R_far (p:=⟨gb690,3,none⟩) (Kd.R_types HO693.out BK690.out (by decide)) (fun _ hk=>hk.2) (.slice Ao13 y696.length co13)) (fun _ h_=>h_.1))))) (zAE (aI_ HB.out GE690.out)));have n4_:=aK_ (zAN (g:=gb690) (o:=.cells #[.string (⟨#[112]⟩:ByteArray),.slice Ao14 y684.length co14,.int .i64 0,.slice Ao13 y696.length co13] 25 (0,0)) (by refine aB_ ?_;refine blk_put (cs:=#[.string (⟨#[112]⟩:ByteArray),.slice Ao14 y684.length co14,.int .i64 0,.slice Ao13 y687.length co13]) ?_ 3 _ rfl;refine aB_ ?_;exact BK690.out) hb);have n5_:=aK_ (zAH (aI_ HB.out GE690.out) hb);clear HO686;clear HO698;clear HO693;clear BK690;clear HB;have HO686:=n0_;have HO698:=n1_;have HO693:=n2_;have HO701:=n3_;have BK690:=n4_;have HB:=n5_;clear n0_ n1_ n2_ n3_ n4_ n5_;(try clear hb);(try clear hb2);(try clear hk);(try clear hi);(try clear ho0))|((with_reducible refine zAQ (N:=41) rfl ?_);(try (refine zAU (by rfl) ?_;dsimp only));refine Kd.R_lit (Kd.int .i64) _ 3 ?hg (N:=41) ?hd (xs:=([2,1,1,1,1]:List Int)) (inner:=[.int .i64 2,.int .i64 1,.int .i64 1,.int .i64 1,.int .i64 1]) (ok:=fun _=>True) (okp:=fun _=>True) ?hr ?hp (fun _ hk=>hk) trivial (Below.refl _ _) (Nat.le_refl _) (by simp) ?_;(case hd=>rfl);(case hg=>rfl);(case hr=>first|(go_simp;done)|(go_simp;rfl));(case hp=>exact (Reps.one (show Kd.M (Kd.int .i64) _ _ _ 2 [.int .i64 2] from rfl) (Reps.one (show Kd.M (Kd.int .i64) _ _ _ 1 [.int .i64 1] from rfl) (Reps.one (show Kd.M (Kd.int .i64) _ _ _ 1 [.int .i64 1] from rfl) (Reps.one (show Kd.M (Kd.int .i64) _ _ _ 1 [.int .i64 1] from rfl) (Reps.one (show Kd.M (Kd.int .i64) _ _ _ 1 [.int .i64 1] from rfl) (Reps.none _ _)))))));intro v705 w23 ho24 hb hg_ hnew_;clear hg_ hnew_;(first|rw [← Ny704.out] at ho24|(simp only [Int.reduceToNat] at ho24;rw [← Ny704.out] at ho24));have n0_:=aK_ (Kd.R_below (aR_ HO686.out) hb);have n1_:=aK_ (Kd.S_below (aS_ HO698.out) hb);have n2_:=aK_ (Kd.R_elder' (aR_ HO693.out) (Kd.R_base ho24) hb);have n3_:=aK_ (Kd.R_elder' (aR_ HO701.out) (Kd.R_base ho24) hb);have n4_:=aK_ (Kd.R_lower (Kd.R_new' (Kd.R_new' ho24 (Kd.R_lt (aR_ HO693.out))) (Kd.R_lt (aR_ HO701.out))) (zAE (aI_ HB.out GE690.out)));have n5_:=aK_ (zAN (g:=gb690) (o:=.cells #[.string (⟨#[112]⟩:ByteArray),.slice Ao14 y684.length co14,.int .i64 0,.slice Ao13 y696.length co13] 25 (0,0)) (aB_ BK690.out) hb);have n6_:=aK_ (zAH (aI_ HB.out GE690.out) hb);clear HO686;clear HO698;clear HO693;clear HO701;clear BK690;clear HB;have HO686:=n0_;have HO698:=n1_;have HO693:=n2_;have HO701:=n3_;have HO706:=n4_;have BK690:=n5_;have HB:=n6_;clear n0_ n1_ n2_ n3_ n4_ n5_ n6_;clear hb ho24;obtain ⟨Ao25,co25,eo25⟩:=Kd.R_slice HO693.out;subst eo25;obtain ⟨Ao26,co26,eo26⟩:=Kd.R_slice HO706.out;subst eo26)|(go_at_call 35;(with_reducible refine (zAM.calls k _ _ t691 _ _ y704 true _ ?side1 ?side2 ?side3 ?side4 A6.out).mono ?_);(case side1=>repeat (first|exact (Kd.R_reads' HO693.out).2.2|(with_reducible refine Kd.C_alloc ?_ _)|(with_reducible refine Kd.C_drewN ?_ _)|(with_reducible refine Kd.C_drew ?_)));(case side2=>exact (Kd.R_reads' HO693.out).2.1);(case side3=>repeat (first|exact (Kd.R_reads' HO706.out).2.2|(with_reducible refine Kd.C_alloc ?_ _)|(with_reducible refine Kd.C_drewN ?_ _)|(with_reducible refine Kd.C_drew ?_)));(case side4=>exact (Kd.R_reads' HO706.out).2.1);rintro e w' ⟨rfl,⟨nd,rfl⟩⟩))
 go_ret
 exact ⟨by first|rfl|(simp [zAL,zAK] <;> rfl)|(simp [*,zAL,zAK] <;> rfl),aI_ HB.out GE690.out⟩
end Go.Proofs.YthbnigjckjkmnaaDoor.S
