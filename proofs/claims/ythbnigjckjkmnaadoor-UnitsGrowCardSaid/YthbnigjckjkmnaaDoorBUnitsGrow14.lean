/- What the proof needs, part 14 of 18. Two plans with types, put together under a node that takes two, have the types of both and money; multiplied they have none; with a number ahead they have. For every two plans that the card lets in. -/
import Derived.Test.YthbnigjckjkmnaaDoorBUnitsGrow5
import Derived.Test.YthbnigjckjkmnaaDoorBUnitsGrow13
import Derived.Test.YthbnigjckjkmnaaDoorBUnitsGrow6
import Derived.Test.YthbnigjckjkmnaaDoorBUnitsGrow12
import Derived.Test.YthbnigjckjkmnaaDoorBUnitsGrow8
set_option linter.unusedVariables false
set_option linter.unusedSimpArgs false
namespace Go.Proofs.YthbnigjckjkmnaaDoor.S
open Go.RowKit Go.Proofs.YthbnigjckjkmnaaDoorW.PrintWords Go.Proofs.YthbnigjckjkmnaaDoorW.PrintLast Go.Proofs.YthbnigjckjkmnaaDoorW.PrintMore
attribute [local go_sem] max2_int min2_int max_two min_two max_three min_three max_four min_four
mutual
def zAD.j0:Nat→List Int→List Int→Bool→ByteArray→List (S47)→Int→List (S33)→ByteArray→List (S47)→Int→List (S33)→Option (Bool)
 |0,_,_,_,_,_,_,_,_,_,_,_=>none
 |k+1,x5,x8,x62,x781000,x781001,x781002,x781003,x782000,x782001,x782002,x782003=>if x62=true then (some true) else ((some (([]:List (S33)):List (S33))).bind fun y793=>(if y793.length+x781003.length<2199023255552 then ((some (y793 ++ x781003:List (S33))).bind fun y796=>(if y796.length+x782003.length<2199023255552 then ((some (([]:List Int):List Int)).bind fun y802=>(if y802.length+x5.length<17592186044416 then ((some (y802 ++ x5:List Int)).bind fun y805=>(if y805.length+x8.length<17592186044416 then ((some (y805 ++ x8:List Int)).bind fun y808=>(if y808.length<17592186044416 then (zAD.l0 k x5 (y796 ++ x782003) (y808 ++ [1]) (([(⟨6,0,0,0,([]:List (S45)),0⟩:S33),(⟨7,0,0,0,([]:List (S45)),0⟩:S33),(⟨9,0,0,2,([]:List (S45)),0⟩:S33),(⟨10,0,0,2,([]:List (S45)),0⟩:S33),(⟨8,0,0,0,([]:List (S45)),0⟩:S33)]:List (S33))) 0 x781000 x781001 x781002 x781003) else (none))) else (none))) else (none))) else (none))) else (none)))
def zAD.l0:Nat→List Int→List (S33)→List Int→List (S33)→Int→ByteArray→List (S47)→Int→List (S33)→Option (Bool)
 |0,_,_,_,_,_,_,_,_,_=>none
 |k+1,x5,x11,x12,x13,x14,x781000,x781001,x781002,x781003=>if x14<(x13.length:Int) then ((some (([]:List (S33)):List (S33))).bind fun y835=>(if y835.length+x11.length<2199023255552 then ((some (y835 ++ x11:List (S33))).bind fun y838=>(if 0≤x14 then (if y838.length<2199023255552 then ((zAG.f k x781000 x781001 x781002 (y838 ++ [(⟨(zAC x13 x14).f0,(zAC x13 x14).f1,(zAC x13 x14).f2,(zAC x13 x14).f3,(zAC x13 x14).f4,(zAC x13 x14).f5⟩:S33)])).bind fun bt845=>(if ((zAC x13 x14).f0)=8 then (if bt845.2.2=80 then (if bt845.2.1=(x11.length:Int) then (zAD.j2 k x5 x11 x12 x13 x14 ((bt845.1.length:Int) != 0) x781000 x781001 x781002 x781003) else (zAD.j2 k x5 x11 x12 x13 x14 true x781000 x781001 x781002 x781003)) else (zAD.j2 k x5 x11 x12 x13 x14 true x781000 x781001 x781002 x781003)) else (if bt845.2.2=0 then (if bt845.2.1=0 then ((zAM.f k bt845.1 x12).bind fun t851=>(if t851=true then (zAD.l0 k x5 x11 x12 x13 (wrap64 (x14+1)) x781000 x781001 x781002 x781003) else (some false))) else (some false)) else (some false)))) else (none)) else (none))) else (none))) else ((some (([(⟨1,2,0,0,([]:List (S45)),0⟩:S33)]:List (S33)):List (S33))).bind fun y818=>(if y818.length+x781003.length<2199023255552 then ((some (y818 ++ x781003:List (S33))).bind fun y821=>(if y821.length<2199023255552 then ((zAG.f k x781000 x781001 x781002 (y821 ++ [(⟨8,0,0,0,([]:List (S45)),0⟩:S33)])).bind fun bt827=>(if bt827.2.2=0 then (if (bt827.1.length:Int)=(wrap64 ((x5.length:Int)+2)) then (if 0<(bt827.1.length:Int) then (if (rd bt827.1 0)=0 then (if 0≤(wrap64 ((bt827.1.length:Int) - 1)) then (if (wrap64 ((bt827.1.length:Int) - 1))<(bt827.1.length:Int) then (some ((rd bt827.1 (wrap64 ((bt827.1.length:Int) - 1))) == 1)) else (none)) else (none)) else (some false)) else (none)) else (some false)) else (some false))) else (none))) else (none)))
def zAD.j2:Nat→List Int→List (S33)→List Int→List (S33)→Int→Bool→ByteArray→List (S47)→Int→List (S33)→Option (Bool)
 |0,_,_,_,_,_,_,_,_,_,_=>none
 |k+1,x5,x11,x12,x13,x14,x130,x781000,x781001,x781002,x781003=>if x130=true then (some false) else (zAD.l0 k x5 x11 x12 x13 (wrap64 (x14+1)) x781000 x781001 x781002 x781003)
end
def zAD.f (k:Nat) (a0_0:ByteArray) (l0_1:List (S47)) (a0_2:Int) (l0_3:List (S33)) (a1_0:ByteArray) (l1_1:List (S47)) (a1_2:Int) (l1_3:List (S33)):Option (Bool):=(octroilaw08_awake.f k).bind fun t782=>(if t782=true then ((zAG.f k a0_0 l0_1 a0_2 l0_3).bind fun bt783=>((zAG.f k a0_0 l0_1 a0_2 l1_3).bind fun bt788=>(if bt783.2.2=0 then (if bt788.2.2=0 then (zAD.j0 k bt783.1 bt788.1 (decide ((wrap64 ((wrap64 ((l0_3.length:Int)+(l1_3.length:Int)))+3)) > 1024)) a0_0 l0_1 a0_2 l0_3 a0_0 l0_1 a0_2 l1_3) else (zAD.j0 k bt783.1 bt788.1 true a0_0 l0_1 a0_2 l0_3 a0_0 l0_1 a0_2 l1_3)) else (zAD.j0 k bt783.1 bt788.1 true a0_0 l0_1 a0_2 l0_3 a0_0 l0_1 a0_2 l1_3)))) else (some false))
theorem zAD.mono_l:∀ k,(∀ y0 y1 y2 y3 y4 y5 y6 y7 y8 y9 y10,LeO (zAD.j0 k y0 y1 y2 y3 y4 y5 y6 y7 y8 y9 y10) (zAD.j0 (k+1) y0 y1 y2 y3 y4 y5 y6 y7 y8 y9 y10))∧(∀ y0 y1 y2 y3 y4 y5 y6 y7 y8,LeO (zAD.l0 k y0 y1 y2 y3 y4 y5 y6 y7 y8) (zAD.l0 (k+1) y0 y1 y2 y3 y4 y5 y6 y7 y8))∧(∀ y0 y1 y2 y3 y4 y5 y6 y7 y8 y9,LeO (zAD.j2 k y0 y1 y2 y3 y4 y5 y6 y7 y8 y9) (zAD.j2 (k+1) y0 y1 y2 y3 y4 y5 y6 y7 y8 y9))
 |0=>⟨fun _ _ _ _ _ _ _ _ _ _ _ r h=>by simp [zAD.j0] at h,fun _ _ _ _ _ _ _ _ _ r h=>by simp [zAD.l0] at h,fun _ _ _ _ _ _ _ _ _ _ r h=>by simp [zAD.j2] at h⟩
 |k+1=>by
  obtain ⟨ih0,ih1,ih2⟩:=zAD.mono_l k
  refine ⟨?_,?_,?_⟩
  ·intro y0 y1 y2 y3 y4 y5 y6 y7 y8 y9 y10
   unfold zAD.j0
   repeat' first
   |(with_reducible exact ih0 _ _ _ _ _ _ _ _ _ _ _)
   |(with_reducible exact ih1 _ _ _ _ _ _ _ _ _)
   |(with_reducible exact ih2 _ _ _ _ _ _ _ _ _ _)
   |(with_reducible exact octroilaw08_awake.mono _)
   |(with_reducible exact zAM.mono _ _ _)
   |(with_reducible exact zAG.mono _ _ _ _ _)
   |(with_reducible exact LeO.refl _)
   |(with_reducible exact LeO.none _)
   |(with_reducible refine LeO.ite ?_ ?_)
   |(with_reducible refine LeO.bind ?_ (fun _=>?_))
   |exact ih0 _ _ _ _ _ _ _ _ _ _ _
   |exact ih1 _ _ _ _ _ _ _ _ _
   |exact ih2 _ _ _ _ _ _ _ _ _ _
   |exact octroilaw08_awake.mono _
   |exact zAM.mono _ _ _
   |exact zAG.mono _ _ _ _ _
   |exact LeO.none _
   |refine LeO.ite ?_ ?_
   |refine LeO.bind ?_ (fun _=>?_)
  ·intro y0 y1 y2 y3 y4 y5 y6 y7 y8
   unfold zAD.l0
   repeat' first
   |(with_reducible exact ih0 _ _ _ _ _ _ _ _ _ _ _)
   |(with_reducible exact ih1 _ _ _ _ _ _ _ _ _)
   |(with_reducible exact ih2 _ _ _ _ _ _ _ _ _ _)
   |(with_reducible exact octroilaw08_awake.mono _)
   |(with_reducible exact zAM.mono _ _ _)
   |(with_reducible exact zAG.mono _ _ _ _ _)
   |(with_reducible exact LeO.refl _)
   |(with_reducible exact LeO.none _)
   |(with_reducible refine LeO.ite ?_ ?_)
   |(with_reducible refine LeO.bind ?_ (fun _=>?_))
   |exact ih0 _ _ _ _ _ _ _ _ _ _ _
   |exact ih1 _ _ _ _ _ _ _ _ _
   |exact ih2 _ _ _ _ _ _ _ _ _ _
   |exact octroilaw08_awake.mono _
   |exact zAM.mono _ _ _
   |exact zAG.mono _ _ _ _ _
   |exact LeO.none _
   |refine LeO.ite ?_ ?_
   |refine LeO.bind ?_ (fun _=>?_)
  ·intro y0 y1 y2 y3 y4 y5 y6 y7 y8 y9
   unfold zAD.j2
   repeat' first
   |(with_reducible exact ih0 _ _ _ _ _ _ _ _ _ _ _)
   |(with_reducible exact ih1 _ _ _ _ _ _ _ _ _)
   |(with_reducible exact ih2 _ _ _ _ _ _ _ _ _ _)
   |(with_reducible exact octroilaw08_awake.mono _)
   |(with_reducible exact zAM.mono _ _ _)
   |(with_reducible exact zAG.mono _ _ _ _ _)
   |(with_reducible exact LeO.refl _)
   |(with_reducible exact LeO.none _)
   |(with_reducible refine LeO.ite ?_ ?_)
   |(with_reducible refine LeO.bind ?_ (fun _=>?_))
   |exact ih0 _ _ _ _ _ _ _ _ _ _ _
   |exact ih1 _ _ _ _ _ _ _ _ _
   |exact ih2 _ _ _ _ _ _ _ _ _ _
   |exact octroilaw08_awake.mono _
   |exact zAM.mono _ _ _
   |exact zAG.mono _ _ _ _ _
   |exact LeO.none _
   |refine LeO.ite ?_ ?_
   |refine LeO.bind ?_ (fun _=>?_)
theorem zAD.mono:∀ a0 a1 a2 a3 a4 a5 a6 a7 k,LeO (zAD.f k a0 a1 a2 a3 a4 a5 a6 a7) (zAD.f (k+1) a0 a1 a2 a3 a4 a5 a6 a7):=by
 intro a0 a1 a2 a3 a4 a5 a6 a7 k
 obtain ⟨ih0,ih1,ih2⟩:=zAD.mono_l k
 unfold zAD.f
 repeat' first
   |(with_reducible exact ih0 _ _ _ _ _ _ _ _ _ _ _)
   |(with_reducible exact ih1 _ _ _ _ _ _ _ _ _)
   |(with_reducible exact ih2 _ _ _ _ _ _ _ _ _ _)
   |(with_reducible exact octroilaw08_awake.mono _)
   |(with_reducible exact zAM.mono _ _ _)
   |(with_reducible exact zAG.mono _ _ _ _ _)
   |(with_reducible exact LeO.refl _)
   |(with_reducible exact LeO.none _)
   |(with_reducible refine LeO.ite ?_ ?_)
   |(with_reducible refine LeO.bind ?_ (fun _=>?_))
   |exact ih0 _ _ _ _ _ _ _ _ _ _ _
   |exact ih1 _ _ _ _ _ _ _ _ _
   |exact ih2 _ _ _ _ _ _ _ _ _ _
   |exact octroilaw08_awake.mono _
   |exact zAM.mono _ _ _
   |exact zAG.mono _ _ _ _ _
   |exact LeO.none _
   |refine LeO.ite ?_ ?_
   |refine LeO.bind ?_ (fun _=>?_)
def zAD.T21:Bool × List (List Nat × List Nat):=(true,[([],[]),([0],[0]),([],[]),([],[]),([2,3],[2,3]),([4],[4]),([5],[5]),([1,6],[1,6]),([0,1,2,3,4,5,6,7],[]),([8,7,7,0,1,2,3,4,5,6,7],[7,8])])
def zAD.B21:List Nat:=[0,1,0,0,12,28,60,127,255,511]
theorem zAD.tab21:rtab .any (opsOf Tryd.f12 21)=zAD.T21:=by kernel_rfl
theorem zAD.bits21:waitsOk zAD.T21.2 zAD.B21=true:=by kernel_rfl
set_option maxHeartbeats 8000000 in
set_option maxRecDepth 100000 in
theorem zAD.calls (k:Nat) (a0_0:ByteArray) (A0_1:Option Addr) (c0_1:Nat) (l0_1:List (S47)) (a0_2:Int) (P0_3_:Nat→Prop) (A0_3:Option Addr) (c0_3:Nat) (l0_3:List (S33)) (a1_0:ByteArray) (A1_1:Option Addr) (c1_1:Nat) (l1_1:List (S47)) (a1_2:Int) (P1_3_:Nat→Prop) (A1_3:Option Addr) (c1_3:Nat) (l1_3:List (S33)) (r:Bool) (w:World) (hG:GW w) (hr0_1:Kd.C k47 w A0_1 l0_1.length l0_1) (hc0_1:l0_1.length≤c0_1) (hs0_3:Kd.V k33 33 w w.heap.size (fun k_=>P0_3_ k_) (.slice A0_3 l0_3.length c0_3) l0_3) (hr1_1:Kd.C k47 w A1_1 l1_1.length l1_1) (hc1_1:l1_1.length≤c1_1) (hs1_3:Kd.V k33 33 w w.heap.size (fun k_=>P1_3_ k_) (.slice A1_3 l1_3.length c1_3) l1_3) (h:zAD.f k a0_0 l0_1 a0_2 l0_3 a1_0 l1_1 a1_2 l1_3=some r) :
  Calls Tryd.prog 12 #[.agg #[.string a0_0,.slice A0_1 l0_1.length c0_1,.int .i64 a0_2,.slice A0_3 l0_3.length c0_3],.agg #[.string a1_0,.slice A1_1 l1_1.length c1_1,.int .i64 a1_2,.slice A1_3 l1_3.length c1_3]] w fun e w'=>e = .returned (.bool r)∧Below w.heap.size w w':=by
 have hu25:=Tryd.underlying25
 have hu33:=Tryd.underlying33
 have HR0_1:=aK_ hr0_1
 have HC0_1:=aK_ hc0_1
 clear hr0_1 hc0_1
 have HO0_3:=aK_ (show Kd.V k33 33 w w.heap.size (fun k_=>((P0_3_ k_∨P1_3_ k_)∨w.heap.size≤k_)) (.slice A0_3 l0_3.length c0_3) l0_3 from Kd.V_mono hs0_3 (fun k_ hk=>.inl (.inl hk)))
 have HR1_1:=aK_ hr1_1
 have HC1_1:=aK_ hc1_1
 clear hr1_1 hc1_1
 have HO1_3:=aK_ (show Kd.V k33 33 w w.heap.size (fun k_=>((P0_3_ k_∨P1_3_ k_)∨w.heap.size≤k_)) (.slice A1_3 l1_3.length c1_3) l1_3 from Kd.V_mono hs1_3 (fun k_ hk=>.inl (.inr hk)))
 have HB:=aK_ (Below.refl w.heap.size w)
 have H:((octroilaw08_awake.f k).bind fun t782=>(if t782=true then ((zAG.f k a0_0 l0_1 a0_2 l0_3).bind fun bt783=>((zAG.f k a0_0 l0_1 a0_2 l1_3).bind fun bt788=>(if bt783.2.2=0 then (if bt788.2.2=0 then (zAD.j0 k bt783.1 bt788.1 (decide ((wrap64 ((wrap64 ((l0_3.length:Int)+(l1_3.length:Int)))+3)) > 1024)) a0_0 l0_1 a0_2 l0_3 a0_0 l0_1 a0_2 l1_3) else (zAD.j0 k bt783.1 bt788.1 true a0_0 l0_1 a0_2 l0_3 a0_0 l0_1 a0_2 l1_3)) else (zAD.j0 k bt783.1 bt788.1 true a0_0 l0_1 a0_2 l0_3 a0_0 l0_1 a0_2 l1_3)))) else (some false)))=some r:=h
 clear h
 replace H:=Option.bind_eq_some_iff.mp H
 obtain ⟨t782,A30,H⟩:=H
 replace H:(if t782=true then ((zAG.f k a0_0 l0_1 a0_2 l0_3).bind fun bt783=>((zAG.f k a0_0 l0_1 a0_2 l1_3).bind fun bt788=>(if bt783.2.2=0 then (if bt788.2.2=0 then (zAD.j0 k bt783.1 bt788.1 (decide ((wrap64 ((wrap64 ((l0_3.length:Int)+(l1_3.length:Int)))+3)) > 1024)) a0_0 l0_1 a0_2 l0_3 a0_0 l0_1 a0_2 l1_3) else (zAD.j0 k bt783.1 bt788.1 true a0_0 l0_1 a0_2 l0_3 a0_0 l0_1 a0_2 l1_3)) else (zAD.j0 k bt783.1 bt788.1 true a0_0 l0_1 a0_2 l0_3 a0_0 l0_1 a0_2 l1_3)))) else (some false))=some r:=H
 have A3:=aK_ A30
 clear A30
 by_cases c4:t782=true
 rotate_left
 ·replace c4:=Bool.eq_false_iff.mpr c4
  subst c4
  have H1:(some false)=some r:=by rw [if_neg (show ¬ (false=true) by decide)] at H;exact H
  clear H
  have H:=H1
  clear H1
  obtain rfl:=Option.some.inj H
  go_enter Tryd.func12,Tryd.ntmps12
  go_wp2_with (first|((with_reducible refine zAQ (N:=2) rfl ?_);(try (refine zAU (by rfl) ?_;dsimp only));refine zAS ?hg (N:=2) ?hd (cs:=#[.string a0_0,.slice A0_1 l0_1.length c0_1,.int .i64 a0_2,.slice A0_3 l0_3.length c0_3]) (t:=25) ?hr ?_;(case hd=>rfl);(case hg=>rfl);(case hr=>first|(go_simp;done)|(go_simp;rfl));intro gb780 hg w267 hbox hb;have n0_:=aK_ (Kd.V_below (Kd.V_elderB (aV_ HO0_3.out) gb780 (Nat.le_of_eq hg.symm)) hb);have n1_:=aK_ (Kd.V_below (Kd.V_elderB (aV_ HO1_3.out) gb780 (Nat.le_of_eq hg.symm)) hb);have n2_:=aK_ (zAH (aH_ HB.out) hb);have n3_:=aK_ (hbox);have n4_:=aK_ ((by rw [hg];exact (zAE (aH_ HB.out)):w.heap.size≤gb780));have n5_:=aK_ ((by rw [hg];exact (zAE (aH_ HB.out)):w.heap.size≤gb780));clear HO0_3;clear HO1_3;clear HB;have HO0_3:=n0_;have HO1_3:=n1_;have HB:=n2_;have BK780:=n3_;have GW780:=n4_;have GE780:=n5_;clear n0_ n1_ n2_ n3_ n4_ n5_;clear hb hbox hg)|((with_reducible refine zAQ (N:=3) rfl ?_);(try (refine zAU (by rfl) ?_;dsimp only));refine zAS ?hg (N:=3) ?hd (cs:=#[.string a1_0,.slice A1_1 l1_1.length c1_1,.int .i64 a1_2,.slice A1_3 l1_3.length c1_3]) (t:=25) ?hr ?_;(case hd=>rfl);(case hg=>rfl);(case hr=>first|(go_simp;done)|(go_simp;rfl));intro gb781 hg w268 hbox hb;have n0_:=aK_ (Kd.V_below (Kd.V_elderB (aV_ HO0_3.out) gb781 (Nat.le_of_eq hg.symm)) hb);have n1_:=aK_ (Kd.V_below (Kd.V_elderB (aV_ HO1_3.out) gb781 (Nat.le_of_eq hg.symm)) hb);have n2_:=aK_ (zAN (g:=gb780) (o:=.cells #[.string a0_0,.slice A0_1 l0_1.length c0_1,.int .i64 a0_2,.slice A0_3 l0_3.length c0_3] 25 (0,0)) (aB_ BK780.out) hb);have n3_:=aK_ (zAH (aI_ HB.out GE780.out) hb);have n4_:=aK_ (hbox);have n5_:=aK_ ((by rw [hg];exact (zAE (aI_ HB.out GE780.out)):w.heap.size≤gb781));have n6_:=aK_ ((by rw [hg];exact (zAE (aI_ HB.out GE780.out)):w.heap.size≤gb781));have n7_:=aK_ ((by rw [hg];exact Nat.ne_of_lt (blk_lt (g:=gb780) (o:=.cells #[.string a0_0,.slice A0_1 l0_1.length c0_1,.int .i64 a0_2,.slice A0_3 l0_3.length c0_3] 25 (0,0)) (aB_ BK780.out)):gb780≠gb781));have n8_:=aK_ ((by rw [hg];exact Nat.ne_of_gt (blk_lt (g:=gb780) (o:=.cells #[.string a0_0,.slice A0_1 l0_1.length c0_1,.int .i64 a0_2,.slice A0_3 l0_3.length c0_3] 25 (0,0)) (aB_ BK780.out)):gb781≠gb780));clear HO0_3;clear HO1_3;clear BK780;clear HB;have HO0_3:=n0_;have HO1_3:=n1_;have BK780:=n2_;have HB:=n3_;have BK781:=n4_;have GW781:=n5_;have GE781:=n6_;have NB780_781:=n7_;have NB781_780:=n8_;clear n0_ n1_ n2_ n3_ n4_ n5_ n6_ n7_ n8_;clear hb hbox hg)|((with_reducible refine gate_callee (f:=32) rfl ?_);refine goesL_ (some 23) rfl rfl Tryd.func32 (by kernel_rfl) rfl #[] rfl aM_ ?_;(with_reducible refine (octroilaw08_awake.calls k  false _ ?side1 A3.out).mono ?_);(case side1=>(first|(with_reducible exact hG)|((repeat (with_reducible first|exact hG|apply GW.drewN|apply GW.drew|apply GW.alloc));done)|exact GW.below hG (aJ_ HB.out GE780.out GE781.out)));rintro e w269 ⟨rfl,hb⟩;refine ⟨_,rfl,?_⟩;have n0_:=aK_ (Kd.V_below (aV_ HO0_3.out) hb);have n1_:=aK_ (Kd.V_below (aV_ HO1_3.out) hb);have n2_:=aK_ (zAN (g:=gb780) (o:=.cells #[.string a0_0,.slice A0_1 l0_1.length c0_1,.int .i64 a0_2,.slice A0_3 l0_3.length c0_3] 25 (0,0)) (aB_ BK780.out) hb);have n3_:=aK_ (zAN (g:=gb781) (o:=.cells #[.string a1_0,.slice A1_1 l1_1.length c1_1,.int .i64 a1_2,.slice A1_3 l1_3.length c1_3] 25 (0,0)) (aB_ BK781.out) hb);have n4_:=aK_ (zAH (aJ_ HB.out GE780.out GE781.out) hb);clear HO0_3;clear HO1_3;clear BK780;clear BK781;clear HB;have HO0_3:=n0_;have HO1_3:=n1_;have BK780:=n2_;have BK781:=n3_;have HB:=n4_;clear n0_ n1_ n2_ n3_ n4_;(try clear hb);(try clear hb2);(try clear hk);(try clear hi)))
  go_ret
  exact ⟨by first|rfl|(simp [zAL,zAK] <;> rfl)|(simp [*,zAL,zAK] <;> rfl),aJ_ HB.out GE780.out GE781.out⟩
 subst c4
 have H1:((zAG.f k a0_0 l0_1 a0_2 l0_3).bind fun bt783=>((zAG.f k a0_0 l0_1 a0_2 l1_3).bind fun bt788=>(if bt783.2.2=0 then (if bt788.2.2=0 then (zAD.j0 k bt783.1 bt788.1 (decide ((wrap64 ((wrap64 ((l0_3.length:Int)+(l1_3.length:Int)))+3)) > 1024)) a0_0 l0_1 a0_2 l0_3 a0_0 l0_1 a0_2 l1_3) else (zAD.j0 k bt783.1 bt788.1 true a0_0 l0_1 a0_2 l0_3 a0_0 l0_1 a0_2 l1_3)) else (zAD.j0 k bt783.1 bt788.1 true a0_0 l0_1 a0_2 l0_3 a0_0 l0_1 a0_2 l1_3))))=some r:=by rw [if_pos rfl] at H;exact H
 clear H
 have H:=H1
 clear H1
 replace H:=Option.bind_eq_some_iff.mp H
 obtain ⟨⟨t783,t786,t787⟩,A50,H⟩:=H
 replace H:((zAG.f k a0_0 l0_1 a0_2 l1_3).bind fun bt788=>(if t787=0 then (if bt788.2.2=0 then (zAD.j0 k t783 bt788.1 (decide ((wrap64 ((wrap64 ((l0_3.length:Int)+(l1_3.length:Int)))+3)) > 1024)) a0_0 l0_1 a0_2 l0_3 a0_0 l0_1 a0_2 l1_3) else (zAD.j0 k t783 bt788.1 true a0_0 l0_1 a0_2 l0_3 a0_0 l0_1 a0_2 l1_3)) else (zAD.j0 k t783 bt788.1 true a0_0 l0_1 a0_2 l0_3 a0_0 l0_1 a0_2 l1_3)))=some r:=H
 have A5:=aK_ A50
 clear A50
 replace H:=Option.bind_eq_some_iff.mp H
 obtain ⟨⟨t788,t791,t792⟩,A60,H⟩:=H
 replace H:(if t787=0 then (if t792=0 then (zAD.j0 k t783 t788 (decide ((wrap64 ((wrap64 ((l0_3.length:Int)+(l1_3.length:Int)))+3)) > 1024)) a0_0 l0_1 a0_2 l0_3 a0_0 l0_1 a0_2 l1_3) else (zAD.j0 k t783 t788 true a0_0 l0_1 a0_2 l0_3 a0_0 l0_1 a0_2 l1_3)) else (zAD.j0 k t783 t788 true a0_0 l0_1 a0_2 l0_3 a0_0 l0_1 a0_2 l1_3))=some r:=H
 have A6:=aK_ A60
 clear A60
 have HC7:=aK_ H
 clear H
 go_enter Tryd.func12,Tryd.ntmps12
 go_upto_region 8 with (first|((with_reducible refine zAQ (N:=2) rfl ?_);(try (refine zAU (by rfl) ?_;dsimp only));refine zAS ?hg (N:=2) ?hd (cs:=#[.string a0_0,.slice A0_1 l0_1.length c0_1,.int .i64 a0_2,.slice A0_3 l0_3.length c0_3]) (t:=25) ?hr ?_;(case hd=>rfl);(case hg=>rfl);(case hr=>first|(go_simp;done)|(go_simp;rfl));intro gb780 hg w8 hbox hb;have n0_:=aK_ (Kd.V_below (Kd.V_elderB (aV_ HO0_3.out) gb780 (Nat.le_of_eq hg.symm)) hb);have n1_:=aK_ (Kd.V_below (Kd.V_elderB (aV_ HO1_3.out) gb780 (Nat.le_of_eq hg.symm)) hb);have n2_:=aK_ (zAH (aH_ HB.out) hb);have n3_:=aK_ (hbox);have n4_:=aK_ ((by rw [hg];exact (zAE (aH_ HB.out)):w.heap.size≤gb780));have n5_:=aK_ ((by rw [hg];exact (zAE (aH_ HB.out)):w.heap.size≤gb780));clear HO0_3;clear HO1_3;clear HB;have HO0_3:=n0_;have HO1_3:=n1_;have HB:=n2_;have BK780:=n3_;have GW780:=n4_;have GE780:=n5_;clear n0_ n1_ n2_ n3_ n4_ n5_;clear hb hbox hg)|((with_reducible refine zAQ (N:=3) rfl ?_);(try (refine zAU (by rfl) ?_;dsimp only));refine zAS ?hg (N:=3) ?hd (cs:=#[.string a1_0,.slice A1_1 l1_1.length c1_1,.int .i64 a1_2,.slice A1_3 l1_3.length c1_3]) (t:=25) ?hr ?_;(case hd=>rfl);(case hg=>rfl);(case hr=>first|(go_simp;done)|(go_simp;rfl));intro gb781 hg w9 hbox hb;have n0_:=aK_ (Kd.V_below (Kd.V_elderB (aV_ HO0_3.out) gb781 (Nat.le_of_eq hg.symm)) hb);have n1_:=aK_ (Kd.V_below (Kd.V_elderB (aV_ HO1_3.out) gb781 (Nat.le_of_eq hg.symm)) hb);have n2_:=aK_ (zAN (g:=gb780) (o:=.cells #[.string a0_0,.slice A0_1 l0_1.length c0_1,.int .i64 a0_2,.slice A0_3 l0_3.length c0_3] 25 (0,0)) (aB_ BK780.out) hb);have n3_:=aK_ (zAH (aI_ HB.out GE780.out) hb);have n4_:=aK_ (hbox);have n5_:=aK_ ((by rw [hg];exact (zAE (aI_ HB.out GE780.out)):w.heap.size≤gb781));have n6_:=aK_ ((by rw [hg];exact (zAE (aI_ HB.out GE780.out)):w.heap.size≤gb781));have n7_:=aK_ ((by rw [hg];exact Nat.ne_of_lt (blk_lt (g:=gb780) (o:=.cells #[.string a0_0,.slice A0_1 l0_1.length c0_1,.int .i64 a0_2,.slice A0_3 l0_3.length c0_3] 25 (0,0)) (aB_ BK780.out)):gb780≠gb781));have n8_:=aK_ ((by rw [hg];exact Nat.ne_of_gt (blk_lt (g:=gb780) (o:=.cells #[.string a0_0,.slice A0_1 l0_1.length c0_1,.int .i64 a0_2,.slice A0_3 l0_3.length c0_3] 25 (0,0)) (aB_ BK780.out)):gb781≠gb780));clear HO0_3;clear HO1_3;clear BK780;clear HB;have HO0_3:=n0_;have HO1_3:=n1_;have BK780:=n2_;have HB:=n3_;have BK781:=n4_;have GW781:=n5_;have GE781:=n6_;have NB780_781:=n7_;have NB781_780:=n8_;clear n0_ n1_ n2_ n3_ n4_ n5_ n6_ n7_ n8_;clear hb hbox hg)|((with_reducible refine gate_callee (f:=32) rfl ?_);refine goesL_ (some 23) rfl rfl Tryd.func32 (by kernel_rfl) rfl #[] rfl aM_ ?_;(with_reducible refine (octroilaw08_awake.calls k  true _ ?side1 A3.out).mono ?_);(case side1=>(first|(with_reducible exact hG)|((repeat (with_reducible first|exact hG|apply GW.drewN|apply GW.drew|apply GW.alloc));done)|exact GW.below hG (aJ_ HB.out GE780.out GE781.out)));rintro e w10 ⟨rfl,hb⟩;refine ⟨_,rfl,?_⟩;have n0_:=aK_ (Kd.V_below (aV_ HO0_3.out) hb);have n1_:=aK_ (Kd.V_below (aV_ HO1_3.out) hb);have n2_:=aK_ (zAN (g:=gb780) (o:=.cells #[.string a0_0,.slice A0_1 l0_1.length c0_1,.int .i64 a0_2,.slice A0_3 l0_3.length c0_3] 25 (0,0)) (aB_ BK780.out) hb);have n3_:=aK_ (zAN (g:=gb781) (o:=.cells #[.string a1_0,.slice A1_1 l1_1.length c1_1,.int .i64 a1_2,.slice A1_3 l1_3.length c1_3] 25 (0,0)) (aB_ BK781.out) hb);have n4_:=aK_ (zAH (aJ_ HB.out GE780.out GE781.out) hb);clear HO0_3;clear HO1_3;clear BK780;clear BK781;clear HB;have HO0_3:=n0_;have HO1_3:=n1_;have BK780:=n2_;have BK781:=n3_;have HB:=n4_;clear n0_ n1_ n2_ n3_ n4_;(try clear hb);(try clear hb2);(try clear hk);(try clear hi);have hnb11:=NB780_781.out;have hnc11:=NB781_780.out;have hcz12_0:w10.cell? ⟨gb780,0,none⟩=some (.string a0_0):=(zAB BK780.out 0).trans rfl;have hcz12_1:w10.cell? ⟨gb780,1,none⟩=some (.slice A0_1 l0_1.length c0_1):=(zAB BK780.out 1).trans rfl;have hcz12_2:w10.cell? ⟨gb780,2,none⟩=some (.int .i64 a0_2):=(zAB BK780.out 2).trans rfl;have hcz12_3:w10.cell? ⟨gb780,3,none⟩=some (.slice A0_3 l0_3.length c0_3):=(zAB BK780.out 3).trans rfl;have hfz12_0:=zAA BK780.out 0;have hfz12_1:=zAA BK780.out 1;have hfz12_2:=zAA BK780.out 2;have hfz12_3:=zAA BK780.out 3;have hcz13_0:w10.cell? ⟨gb781,0,none⟩=some (.string a1_0):=(zAB BK781.out 0).trans rfl;have hcz13_1:w10.cell? ⟨gb781,1,none⟩=some (.slice A1_1 l1_1.length c1_1):=(zAB BK781.out 1).trans rfl;have hcz13_2:w10.cell? ⟨gb781,2,none⟩=some (.int .i64 a1_2):=(zAB BK781.out 2).trans rfl;have hcz13_3:w10.cell? ⟨gb781,3,none⟩=some (.slice A1_3 l1_3.length c1_3):=(zAB BK781.out 3).trans rfl;have hfz13_0:=zAA BK781.out 0;have hfz13_1:=zAA BK781.out 1;have hfz13_2:=zAA BK781.out 2;have hfz13_3:=zAA BK781.out 3)|((with_reducible refine gate_store (t:=9) (p:=27) rfl ?_);refine store_event (t:=9) (p:=27) (v:=?vo_w14) (w1:=(w10.setCell ⟨gb781,0,none⟩ (.string a0_0))) ?hg ?ho ?hn ?hr ?_;(case ho=>rfl);(case hg=>rfl);(case hn=>rfl);(case hr=>first|(go_simp;done)|(go_simp;rfl));intro w14 hw;have n0_:zAO (Kd.V k33 33 w14 w.heap.size (fun k_=>((P0_3_ k_∨P1_3_ k_)∨w.heap.size≤k_)∧k_≠gb780∧k_≠gb781) (.slice A0_3 l0_3.length c0_3) l0_3):=⟨(by rw [hw];exact (by refine aV_ ?_;exact Kd.V_mono (Kd.V_far (p:=⟨gb781,0,none⟩) (Kd.V_mono HO0_3.out (fun k_ hk=>(⟨hk,hk.2⟩:_∧k_≠gb781))) (fun _ hk=>hk.2) (.string a0_0)) (fun _ hk=>⟨hk.1.1.1,⟨hk.1.1.2,hk.1.2⟩⟩)))⟩;have n1_:zAO (Kd.V k33 33 w14 w.heap.size (fun k_=>((P0_3_ k_∨P1_3_ k_)∨w.heap.size≤k_)∧k_≠gb780∧k_≠gb781) (.slice A1_3 l1_3.length c1_3) l1_3):=⟨(by rw [hw];exact (by refine aV_ ?_;exact Kd.V_mono (Kd.V_far (p:=⟨gb781,0,none⟩) (Kd.V_mono HO1_3.out (fun k_ hk=>(⟨hk,hk.2⟩:_∧k_≠gb781))) (fun _ hk=>hk.2) (.string a0_0)) (fun _ hk=>⟨hk.1.1.1,⟨hk.1.1.2,hk.1.2⟩⟩)))⟩;have n2_:zAO (w14.heap[gb780]?=some (.cells #[.string a0_0,.slice A0_1 l0_1.length c0_1,.int .i64 a0_2,.slice A0_3 l0_3.length c0_3] 25 (0,0))):=⟨(by rw [hw];exact (by refine aB_ ?_;refine blk_far ?_ NB780_781.out _;refine aB_ ?_;exact BK780.out))⟩;have n3_:zAO (w14.heap[gb781]?=some (.cells #[.string a0_0,.slice A1_1 l1_1.length c1_1,.int .i64 a1_2,.slice A1_3 l1_3.length c1_3] 25 (0,0))):=⟨(by rw [hw];exact (by refine aB_ ?_;refine blk_put (cs:=#[.string a1_0,.slice A1_1 l1_1.length c1_1,.int .i64 a1_2,.slice A1_3 l1_3.length c1_3]) ?_ 0 _ rfl;refine aB_ ?_;exact BK781.out))⟩;have n4_:zAO (Below w.heap.size w w14):=⟨(by rw [hw];exact (aJ_ HB.out GE780.out GE781.out))⟩;clear hw;clear HO0_3;clear HO1_3;clear BK780;clear BK781;clear HB;have HO0_3:=n0_;have HO1_3:=n1_;have BK780:=n2_;have BK781:=n3_;have HB:=n4_;clear n0_ n1_ n2_ n3_ n4_;have hcz15_0:w14.cell? ⟨gb780,0,none⟩=some (.string a0_0):=(zAB BK780.out 0).trans rfl;have hcz15_1:w14.cell? ⟨gb780,1,none⟩=some (.slice A0_1 l0_1.length c0_1):=(zAB BK780.out 1).trans rfl;have hcz15_2:w14.cell? ⟨gb780,2,none⟩=some (.int .i64 a0_2):=(zAB BK780.out 2).trans rfl;have hcz15_3:w14.cell? ⟨gb780,3,none⟩=some (.slice A0_3 l0_3.length c0_3):=(zAB BK780.out 3).trans rfl;have hfz15_0:=zAA BK780.out 0;have hfz15_1:=zAA BK780.out 1;have hfz15_2:=zAA BK780.out 2;have hfz15_3:=zAA BK780.out 3;have hcz16_0:w14.cell? ⟨gb781,0,none⟩=some (.string a0_0):=(zAB BK781.out 0).trans rfl;have hcz16_1:w14.cell? ⟨gb781,1,none⟩=some (.slice A1_1 l1_1.length c1_1):=(zAB BK781.out 1).trans rfl;have hcz16_2:w14.cell? ⟨gb781,2,none⟩=some (.int .i64 a1_2):=(zAB BK781.out 2).trans rfl;have hcz16_3:w14.cell? ⟨gb781,3,none⟩=some (.slice A1_3 l1_3.length c1_3):=(zAB BK781.out 3).trans rfl;have hfz16_0:=zAA BK781.out 0;have hfz16_1:=zAA BK781.out 1;have hfz16_2:=zAA BK781.out 2;have hfz16_3:=zAA BK781.out 3)|((with_reducible refine gate_store (t:=3) (p:=30) rfl ?_);refine store_event (t:=3) (p:=30) (v:=?vo_w17) (w1:=(w14.setCell ⟨gb781,2,none⟩ (.int .i64 a0_2))) ?hg ?ho ?hn ?hr ?_;(case ho=>rfl);(case hg=>rfl);(case hn=>rfl);(case hr=>first|(go_simp;done)|(go_simp;rfl));intro w17 hw;have n0_:zAO (Kd.V k33 33 w17 w.heap.size (fun k_=>((P0_3_ k_∨P1_3_ k_)∨w.heap.size≤k_)∧k_≠gb780∧k_≠gb781) (.slice A0_3 l0_3.length c0_3) l0_3):=⟨(by rw [hw];exact (by refine aV_ ?_;exact Kd.V_mono (Kd.V_far (p:=⟨gb781,2,none⟩) (Kd.V_mono HO0_3.out (fun k_ hk=>(⟨hk,hk.2.2⟩:_∧k_≠gb781))) (fun _ hk=>hk.2) (.int .i64 a0_2)) (fun _ hk=>⟨hk.1.1,⟨hk.1.2.1,hk.1.2.2⟩⟩)))⟩;have n1_:zAO (Kd.V k33 33 w17 w.heap.size (fun k_=>((P0_3_ k_∨P1_3_ k_)∨w.heap.size≤k_)∧k_≠gb780∧k_≠gb781) (.slice A1_3 l1_3.length c1_3) l1_3):=⟨(by rw [hw];exact (by refine aV_ ?_;exact Kd.V_mono (Kd.V_far (p:=⟨gb781,2,none⟩) (Kd.V_mono HO1_3.out (fun k_ hk=>(⟨hk,hk.2.2⟩:_∧k_≠gb781))) (fun _ hk=>hk.2) (.int .i64 a0_2)) (fun _ hk=>⟨hk.1.1,⟨hk.1.2.1,hk.1.2.2⟩⟩)))⟩;have n2_:zAO (w17.heap[gb780]?=some (.cells #[.string a0_0,.slice A0_1 l0_1.length c0_1,.int .i64 a0_2,.slice A0_3 l0_3.length c0_3] 25 (0,0))):=⟨(by rw [hw];exact (by refine aB_ ?_;refine blk_far ?_ NB780_781.out _;refine aB_ ?_;exact BK780.out))⟩;have n3_:zAO (w17.heap[gb781]?=some (.cells #[.string a0_0,.slice A1_1 l1_1.length c1_1,.int .i64 a0_2,.slice A1_3 l1_3.length c1_3] 25 (0,0))):=⟨(by rw [hw];exact (by refine aB_ ?_;refine blk_put (cs:=#[.string a0_0,.slice A1_1 l1_1.length c1_1,.int .i64 a1_2,.slice A1_3 l1_3.length c1_3]) ?_ 2 _ rfl;refine aB_ ?_;exact BK781.out))⟩;have n4_:zAO (Below w.heap.size w w17):=⟨(by rw [hw];exact (aJ_ HB.out GE780.out GE781.out))⟩;clear hw;clear HO0_3;clear HO1_3;clear BK780;clear BK781;clear HB;have HO0_3:=n0_;have HO1_3:=n1_;have BK780:=n2_;have BK781:=n3_;have HB:=n4_;clear n0_ n1_ n2_ n3_ n4_;have hcz18_0:w17.cell? ⟨gb780,0,none⟩=some (.string a0_0):=(zAB BK780.out 0).trans rfl;have hcz18_1:w17.cell? ⟨gb780,1,none⟩=some (.slice A0_1 l0_1.length c0_1):=(zAB BK780.out 1).trans rfl;have hcz18_2:w17.cell? ⟨gb780,2,none⟩=some (.int .i64 a0_2):=(zAB BK780.out 2).trans rfl;have hcz18_3:w17.cell? ⟨gb780,3,none⟩=some (.slice A0_3 l0_3.length c0_3):=(zAB BK780.out 3).trans rfl;have hfz18_0:=zAA BK780.out 0;have hfz18_1:=zAA BK780.out 1;have hfz18_2:=zAA BK780.out 2;have hfz18_3:=zAA BK780.out 3;have hcz19_0:w17.cell? ⟨gb781,0,none⟩=some (.string a0_0):=(zAB BK781.out 0).trans rfl;have hcz19_1:w17.cell? ⟨gb781,1,none⟩=some (.slice A1_1 l1_1.length c1_1):=(zAB BK781.out 1).trans rfl;have hcz19_2:w17.cell? ⟨gb781,2,none⟩=some (.int .i64 a0_2):=(zAB BK781.out 2).trans rfl;have hcz19_3:w17.cell? ⟨gb781,3,none⟩=some (.slice A1_3 l1_3.length c1_3):=(zAB BK781.out 3).trans rfl;have hfz19_0:=zAA BK781.out 0;have hfz19_1:=zAA BK781.out 1;have hfz19_2:=zAA BK781.out 2;have hfz19_3:=zAA BK781.out 3)|((with_reducible refine gate_callee (f:=33) rfl ?_);refine goesL_ (some 36) rfl rfl Tryd.func33 (by kernel_rfl) rfl #[.agg #[.string a0_0,.slice A0_1 l0_1.length c0_1,.int .i64 a0_2,.slice A0_3 l0_3.length c0_3]] rfl aM_ ?_;(with_reducible refine (zAG.calls k a0_0 _ _ l0_1 a0_2 _ _ l0_3 t783 t786 t787 _ ?side1 ?side2 ?side3 ?side4 ?side5 A5.out).mono ?_);(case side1=>(first|(with_reducible exact hG)|((repeat (with_reducible first|exact hG|apply GW.drewN|apply GW.drew|apply GW.alloc));done)|exact GW.below hG (aJ_ HB.out GE780.out GE781.out)));(case side2=>exact Kd.C_below HR0_1.out (aJ_ HB.out GE780.out GE781.out));(case side3=>exact HC0_1.out);(case side4=>refine (Kd.V_reads' (e:=33) (base:=w.heap.size) (ok:=fun k_=>(((P0_3_ k_∨P1_3_ k_)∨w.heap.size≤k_)∧(k_≠gb780∧k_≠gb781))) (n:=l0_3.length) (c:=c0_3) ?_).2.2;exact (by refine aV_ ?_;exact (Kd.V_mono (Kd.V_far (p:=⟨gb781,1,none⟩) (Kd.V_mono HO0_3.out (fun k_ hk=>(⟨hk,hk.2.2⟩:_∧k_≠gb781))) (fun _ hk=>hk.2) (.slice A0_1 l0_1.length c0_1)) (fun _ h_=>h_.1))));(case side5=>exact (Kd.V_reads' HO0_3.out).2.1);rintro e w20 ⟨v784,rfl,ho0,hb⟩;refine ⟨_,rfl,?_⟩;have n0_:=aK_ (Kd.V_elder' (by refine aV_ ?_;exact (Kd.V_mono (Kd.V_far (p:=⟨gb781,1,none⟩) (Kd.V_mono HO0_3.out (fun k_ hk=>(⟨hk,hk.2.2⟩:_∧k_≠gb781))) (fun _ hk=>hk.2) (.slice A0_1 l0_1.length c0_1)) (fun _ h_=>h_.1))) (Kd.R_base ho0) hb);have n1_:=aK_ (Kd.V_elder' (by refine aV_ ?_;exact (Kd.V_mono (Kd.V_far (p:=⟨gb781,1,none⟩) (Kd.V_mono HO1_3.out (fun k_ hk=>(⟨hk,hk.2.2⟩:_∧k_≠gb781))) (fun _ hk=>hk.2) (.slice A0_1 l0_1.length c0_1)) (fun _ h_=>h_.1))) (Kd.R_base ho0) hb);have n2_:=aK_ (Kd.R_lower (Kd.R_newM (M:=fun k_=>(w.heap.size≤k_)) ho0 (zAE (aJ_ HB.out GE780.out GE781.out)) (fun k_ h_=>h_)) (zAE (aJ_ HB.out GE780.out GE781.out)));have n3_:=aK_ (zAN (g:=gb780) (o:=.cells #[.string a0_0,.slice A0_1 l0_1.length c0_1,.int .i64 a0_2,.slice A0_3 l0_3.length c0_3] 25 (0,0)) (by refine aB_ ?_;refine blk_far ?_ NB780_781.out _;refine aB_ ?_;exact BK780.out) hb);have n4_:=aK_ (zAN (g:=gb781) (o:=.cells #[.string a0_0,.slice A0_1 l0_1.length c0_1,.int .i64 a0_2,.slice A1_3 l1_3.length c1_3] 25 (0,0)) (by refine aB_ ?_;refine blk_put (cs:=#[.string a0_0,.slice A1_1 l1_1.length c1_1,.int .i64 a0_2,.slice A1_3 l1_3.length c1_3]) ?_ 1 _ rfl;refine aB_ ?_;exact BK781.out) hb);have n5_:=aK_ (zAH (aJ_ HB.out GE780.out GE781.out) hb);clear HO0_3;clear HO1_3;clear BK780;clear BK781;clear HB;have HO0_3:=n0_;have HO1_3:=n1_;have HO785:=n2_;have BK780:=n3_;have BK781:=n4_;have HB:=n5_;clear n0_ n1_ n2_ n3_ n4_ n5_;(try clear hb);(try clear hb2);(try clear hk);(try clear hi);(try clear ho0);have hcz21_0:w20.cell? ⟨gb781,0,none⟩=some (.string a0_0):=(zAB BK781.out 0).trans rfl;have hcz21_1:w20.cell? ⟨gb781,1,none⟩=some (.slice A0_1 l0_1.length c0_1):=(zAB BK781.out 1).trans rfl;have hcz21_2:w20.cell? ⟨gb781,2,none⟩=some (.int .i64 a0_2):=(zAB BK781.out 2).trans rfl;have hcz21_3:w20.cell? ⟨gb781,3,none⟩=some (.slice A1_3 l1_3.length c1_3):=(zAB BK781.out 3).trans rfl;have hfz21_0:=zAA BK781.out 0;have hfz21_1:=zAA BK781.out 1;have hfz21_2:=zAA BK781.out 2;have hfz21_3:=zAA BK781.out 3)|((with_reducible refine gate_callee (f:=33) rfl ?_);refine goesL_ (some 42) rfl rfl Tryd.func33 (by kernel_rfl) rfl #[.agg #[.string a0_0,.slice A0_1 l0_1.length c0_1,.int .i64 a0_2,.slice A1_3 l1_3.length c1_3]] rfl aM_ ?_;(with_reducible refine (zAG.calls k a0_0 _ _ l0_1 a0_2 _ _ l1_3 t788 t791 t792 _ ?side1 ?side2 ?side3 ?side4 ?side5 A6.out).mono ?_);(case side1=>(first|(with_reducible exact hG)|((repeat (with_reducible first|exact hG|apply GW.drewN|apply GW.drew|apply GW.alloc));done)|exact GW.below hG (aJ_ HB.out GE780.out GE781.out)));(case side2=>repeat (first|exact (Kd.C_below HR0_1.out HB.out)|(with_reducible refine Kd.C_alloc ?_ _)|(with_reducible refine Kd.C_drewN ?_ _)|(with_reducible refine Kd.C_drew ?_)));(case side3=>exact HC0_1.out);(case side4=>repeat (first|exact (Kd.V_reads' HO1_3.out).2.2|(with_reducible refine Kd.C_alloc ?_ _)|(with_reducible refine Kd.C_drewN ?_ _)|(with_reducible refine Kd.C_drew ?_)));(case side5=>exact (Kd.V_reads' HO1_3.out).2.1);rintro e w22 ⟨v789,rfl,ho0,hb⟩;refine ⟨_,rfl,?_⟩;have n0_:=aK_ (Kd.V_elder' (aV_ HO0_3.out) (Kd.R_base ho0) hb);have n1_:=aK_ (Kd.V_elder' (aV_ HO1_3.out) (Kd.R_base ho0) hb);have n2_:=aK_ (Kd.R_elder' (aR_ HO785.out) (Kd.R_base ho0) hb);have n3_:=aK_ (Kd.R_lower (Kd.R_new' (Kd.R_newM (M:=fun k_=>(w.heap.size≤k_)) ho0 (zAE (aJ_ HB.out GE780.out GE781.out)) (fun k_ h_=>h_)) (Kd.R_lt (aR_ HO785.out))) (zAE (aJ_ HB.out GE780.out GE781.out)));have n4_:=aK_ (zAN (g:=gb780) (o:=.cells #[.string a0_0,.slice A0_1 l0_1.length c0_1,.int .i64 a0_2,.slice A0_3 l0_3.length c0_3] 25 (0,0)) (aB_ BK780.out) hb);have n5_:=aK_ (zAN (g:=gb781) (o:=.cells #[.string a0_0,.slice A0_1 l0_1.length c0_1,.int .i64 a0_2,.slice A1_3 l1_3.length c1_3] 25 (0,0)) (aB_ BK781.out) hb);have n6_:=aK_ (zAH (aJ_ HB.out GE780.out GE781.out) hb);clear HO0_3;clear HO1_3;clear HO785;clear BK780;clear BK781;clear HB;have HO0_3:=n0_;have HO1_3:=n1_;have HO785:=n2_;have HO790:=n3_;have BK780:=n4_;have BK781:=n5_;have HB:=n6_;clear n0_ n1_ n2_ n3_ n4_ n5_ n6_;(try clear hb);(try clear hb2);(try clear hk);(try clear hi);(try clear ho0)))
 (try simp only [Act.put,List.setIfInBounds_toArray,List.set_cons_zero,List.set_cons_succ])
 go_cut [62] (fun v62 wc=>∃ (kq:Nat) (x62_6:Bool),v62 = .bool x62_6∧zAO (zAD.j0 kq t783 t788 x62_6 a0_0 l0_1 a0_2 l0_3 a0_0 l0_1 a0_2 l1_3=some r)∧zAO (kq≤k)∧zAO (Kd.R (Kd.int .i64) 3 wc w.heap.size (fun k_=>(w.heap.size≤k_)∧some k_≠(v789:Value).ownBlock) v784 t783)∧zAO (Kd.R (Kd.int .i64) 3 wc w.heap.size (fun k_=>(w.heap.size≤k_)∧some k_≠(v784:Value).ownBlock) v789 t788)∧zAO (Kd.V k33 33 wc w.heap.size (fun k_=>((P0_3_ k_∨P1_3_ k_)∨w.heap.size≤k_)∧some k_≠(v784:Value).ownBlock∧some k_≠(v789:Value).ownBlock∧k_≠gb780∧k_≠gb781) (.slice A0_3 l0_3.length c0_3) l0_3)∧zAO (Kd.V k33 33 wc w.heap.size (fun k_=>((P0_3_ k_∨P1_3_ k_)∨w.heap.size≤k_)∧some k_≠(v784:Value).ownBlock∧some k_≠(v789:Value).ownBlock∧k_≠gb780∧k_≠gb781) (.slice A1_3 l1_3.length c1_3) l1_3)∧zAO (wc.heap[gb780]?=some (.cells #[.string a0_0,(.slice A0_1 l0_1.length c0_1),.int .i64 a0_2,(.slice A0_3 l0_3.length c0_3)] 25 (0,0)))∧zAO (wc.heap[gb781]?=some (.cells #[.string a0_0,(.slice A0_1 l0_1.length c0_1),.int .i64 a0_2,(.slice A1_3 l1_3.length c1_3)] 25 (0,0)))∧zAO (Below w.heap.size w wc))
 case first =>
  have H:=HC7.out
  clear HC7
  by_cases c23:t787=0
  rotate_left
  ·rw [if_neg c23] at H
   have c23b0:(t787 == 0)=false:=beq_eq_false_iff_ne.mpr c23
   have c23b1:(t787 != 0)=true:=bne_iff_ne.mpr c23
   (first|rw [c23b0]|(simp only [i64_w,i32_w];rw [c23b0])|skip)
   have H':=aK_ H
   clear H
   go_wp2
   go_meet
   case rel=>exact ⟨_,(true),aS2_,H',⟨by first|omega|exact Nat.le_refl _⟩,⟨by refine aR_ ?_;exact Kd.R_mono HO785.out (fun _ hk=>⟨hk.1.1,hk.2⟩)⟩,⟨by refine aR_ ?_;exact Kd.R_mono HO790.out (fun _ hk=>⟨hk.1.1,hk.2⟩)⟩,⟨by refine aV_ ?_;exact Kd.V_mono HO0_3.out (fun _ hk=>⟨hk.1.1.1,⟨hk.1.2,⟨hk.2,⟨hk.1.1.2.1,hk.1.1.2.2⟩⟩⟩⟩)⟩,⟨by refine aV_ ?_;exact Kd.V_mono HO1_3.out (fun _ hk=>⟨hk.1.1.1,⟨hk.1.2,⟨hk.2,⟨hk.1.1.2.1,hk.1.1.2.2⟩⟩⟩⟩)⟩,⟨aB_ BK780.out⟩,⟨aB_ BK781.out⟩,⟨aJ_ HB.out GE780.out GE781.out⟩⟩
  rw [if_pos c23] at H
  have c23b0:(t787 == 0)=true:=beq_iff_eq.mpr c23
  have c23b1:(t787 != 0)=false:=bne_eq_false_iff_eq.mpr c23
  clear c23
  (first|rw [c23b0]|(simp only [i64_w,i32_w];rw [c23b0])|skip)
  by_cases c24:t792=0
  rotate_left
  ·rw [if_neg c24] at H
   have c24b0:(t792 == 0)=false:=beq_eq_false_iff_ne.mpr c24
   have c24b1:(t792 != 0)=true:=bne_iff_ne.mpr c24
   have H':=aK_ H
   clear H
   go_wp2
   go_meet
   case rel=>exact ⟨_,(true),aS2_,H',⟨by first|omega|exact Nat.le_refl _⟩,⟨by refine aR_ ?_;exact Kd.R_mono HO785.out (fun _ hk=>⟨hk.1.1,hk.2⟩)⟩,⟨by refine aR_ ?_;exact Kd.R_mono HO790.out (fun _ hk=>⟨hk.1.1,hk.2⟩)⟩,⟨by refine aV_ ?_;exact Kd.V_mono HO0_3.out (fun _ hk=>⟨hk.1.1.1,⟨hk.1.2,⟨hk.2,⟨hk.1.1.2.1,hk.1.1.2.2⟩⟩⟩⟩)⟩,⟨by refine aV_ ?_;exact Kd.V_mono HO1_3.out (fun _ hk=>⟨hk.1.1.1,⟨hk.1.2,⟨hk.2,⟨hk.1.1.2.1,hk.1.1.2.2⟩⟩⟩⟩)⟩,⟨aB_ BK780.out⟩,⟨aB_ BK781.out⟩,⟨aJ_ HB.out GE780.out GE781.out⟩⟩
  rw [if_pos c24] at H
  have c24b0:(t792 == 0)=true:=beq_iff_eq.mpr c24
  have c24b1:(t792 != 0)=false:=bne_eq_false_iff_eq.mpr c24
  clear c24
  have H':=aK_ H
  clear H
  have hnb25:=NB780_781.out
  have hnc25:=NB781_780.out
  have hcz26_0:w22.cell? ⟨gb780,0,none⟩=some (.string a0_0):=(zAB BK780.out 0).trans rfl
  have hcz26_1:w22.cell? ⟨gb780,1,none⟩=some (.slice A0_1 l0_1.length c0_1):=(zAB BK780.out 1).trans rfl
  have hcz26_2:w22.cell? ⟨gb780,2,none⟩=some (.int .i64 a0_2):=(zAB BK780.out 2).trans rfl
  have hcz26_3:w22.cell? ⟨gb780,3,none⟩=some (.slice A0_3 l0_3.length c0_3):=(zAB BK780.out 3).trans rfl
  have hfz26_0:=zAA BK780.out 0
  have hfz26_1:=zAA BK780.out 1
  have hfz26_2:=zAA BK780.out 2
  have hfz26_3:=zAA BK780.out 3
  have hcz27_0:w22.cell? ⟨gb781,0,none⟩=some (.string a0_0):=(zAB BK781.out 0).trans rfl
  have hcz27_1:w22.cell? ⟨gb781,1,none⟩=some (.slice A0_1 l0_1.length c0_1):=(zAB BK781.out 1).trans rfl
  have hcz27_2:w22.cell? ⟨gb781,2,none⟩=some (.int .i64 a0_2):=(zAB BK781.out 2).trans rfl
  have hcz27_3:w22.cell? ⟨gb781,3,none⟩=some (.slice A1_3 l1_3.length c1_3):=(zAB BK781.out 3).trans rfl
  have hfz27_0:=zAA BK781.out 0
  have hfz27_1:=zAA BK781.out 1
  have hfz27_2:=zAA BK781.out 2
  have hfz27_3:=zAA BK781.out 3
  go_wp2
  go_meet
  case rel=>exact ⟨_,(decide ((wrap64 ((wrap64 ((l0_3.length:Int)+(l1_3.length:Int)))+3)) > 1024)),aS2_,H',⟨by first|omega|exact Nat.le_refl _⟩,⟨by refine aR_ ?_;exact Kd.R_mono HO785.out (fun _ hk=>⟨hk.1.1,hk.2⟩)⟩,⟨by refine aR_ ?_;exact Kd.R_mono HO790.out (fun _ hk=>⟨hk.1.1,hk.2⟩)⟩,⟨by refine aV_ ?_;exact Kd.V_mono HO0_3.out (fun _ hk=>⟨hk.1.1.1,⟨hk.1.2,⟨hk.2,⟨hk.1.1.2.1,hk.1.1.2.2⟩⟩⟩⟩)⟩,⟨by refine aV_ ?_;exact Kd.V_mono HO1_3.out (fun _ hk=>⟨hk.1.1.1,⟨hk.1.2,⟨hk.2,⟨hk.1.1.2.1,hk.1.1.2.2⟩⟩⟩⟩)⟩,⟨aB_ BK780.out⟩,⟨aB_ BK781.out⟩,⟨aJ_ HB.out GE780.out GE781.out⟩⟩
 clear HC7
 try clear c1
 try clear c2
 try clear p2
 try clear c3
 try clear c4
 try clear p6
 try clear c11
 try clear c12
 try clear c23
 try clear c23b0
 try clear c23b1
 try clear c24
 try clear c24b0
 try clear c24b1
 try clear c25
 try clear hcz12_0
 try clear hcz12_1
 try clear hcz12_2
 try clear hcz12_3
 try clear hcz13_0
 try clear hcz13_1
 try clear hcz13_2
 try clear hcz13_3
 try clear hcz15_0
 try clear hcz15_1
 try clear hcz15_2
 try clear hcz15_3
 try clear hcz16_0
 try clear hcz16_1
 try clear hcz16_2
 try clear hcz16_3
 try clear hcz18_0
 try clear hcz18_1
 try clear hcz18_2
 try clear hcz18_3
 try clear hcz19_0
 try clear hcz19_1
 try clear hcz19_2
 try clear hcz19_3
 try clear hcz21_0
 try clear hcz21_1
 try clear hcz21_2
 try clear hcz21_3
 try clear hcz26_0
 try clear hcz26_1
 try clear hcz26_2
 try clear hcz26_3
 try clear hcz27_0
 try clear hcz27_1
 try clear hcz27_2
 try clear hcz27_3
 try clear hfz12_0
 try clear hfz12_1
 try clear hfz12_2
 try clear hfz12_3
 try clear hfz13_0
 try clear hfz13_1
 try clear hfz13_2
 try clear hfz13_3
 try clear hfz15_0
 try clear hfz15_1
 try clear hfz15_2
 try clear hfz15_3
 try clear hfz16_0
 try clear hfz16_1
 try clear hfz16_2
 try clear hfz16_3
 try clear hfz18_0
 try clear hfz18_1
 try clear hfz18_2
 try clear hfz18_3
 try clear hfz19_0
 try clear hfz19_1
 try clear hfz19_2
 try clear hfz19_3
 try clear hfz21_0
 try clear hfz21_1
 try clear hfz21_2
 try clear hfz21_3
 try clear hfz26_0
 try clear hfz26_1
 try clear hfz26_2
 try clear hfz26_3
 try clear hfz27_0
 try clear hfz27_1
 try clear hfz27_2
 try clear hfz27_3
 obtain ⟨kq,x62_6,rfl,HA,HJ6,HO_5,HO_8,HO_781003,HO_782003,BK780,BK781,HB⟩:=hcut
 cases kq with
 |zero=>exact absurd HA.out (by simp [zAD.j0])
 |succ kj6=>?_
 have H:=HA.out
 clear HA
 simp only [zAD.j0] at H
 by_cases c28:x62_6=true
 ·subst c28
  have H1:(some true)=some r:=by rw [if_pos rfl] at H;exact H
  clear H
  have H:=H1
  clear H1
  obtain rfl:=Option.some.inj H
  go_wp2
  go_ret
  exact ⟨by first|rfl|(simp [zAL,zAK] <;> rfl)|(simp [*,zAL,zAK] <;> rfl),aJ_ HB.out GE780.out GE781.out⟩
 replace c28:=Bool.eq_false_iff.mpr c28
 subst c28
 have H1:((some (([]:List (S33)):List (S33))).bind fun y793=>(if y793.length+l0_3.length<2199023255552 then ((some (y793 ++ l0_3:List (S33))).bind fun y796=>(if y796.length+l1_3.length<2199023255552 then ((some (([]:List Int):List Int)).bind fun y802=>(if y802.length+t783.length<17592186044416 then ((some (y802 ++ t783:List Int)).bind fun y805=>(if y805.length+t788.length<17592186044416 then ((some (y805 ++ t788:List Int)).bind fun y808=>(if y808.length<17592186044416 then (zAD.l0 kj6 t783 (y796 ++ l1_3) (y808 ++ [1]) (([(⟨6,0,0,0,([]:List (S45)),0⟩:S33),(⟨7,0,0,0,([]:List (S45)),0⟩:S33),(⟨9,0,0,2,([]:List (S45)),0⟩:S33),(⟨10,0,0,2,([]:List (S45)),0⟩:S33),(⟨8,0,0,0,([]:List (S45)),0⟩:S33)]:List (S33))) 0 a0_0 l0_1 a0_2 l0_3) else (none))) else (none))) else (none))) else (none))) else (none)))=some r:=by rw [if_neg (show ¬ (false=true) by decide)] at H;exact H
 clear H
 have H:=H1
 clear H1
 obtain ⟨y793,hy793⟩:∃ y_:List (S33),y_=(([]:List (S33))):=⟨_,rfl⟩
 replace H:(if y793.length+l0_3.length<2199023255552 then ((some (y793 ++ l0_3:List (S33))).bind fun y796=>(if y796.length+l1_3.length<2199023255552 then ((some (([]:List Int):List Int)).bind fun y802=>(if y802.length+t783.length<17592186044416 then ((some (y802 ++ t783:List Int)).bind fun y805=>(if y805.length+t788.length<17592186044416 then ((some (y805 ++ t788:List Int)).bind fun y808=>(if y808.length<17592186044416 then (zAD.l0 kj6 t783 (y796 ++ l1_3) (y808 ++ [1]) (([(⟨6,0,0,0,([]:List (S45)),0⟩:S33),(⟨7,0,0,0,([]:List (S45)),0⟩:S33),(⟨9,0,0,2,([]:List (S45)),0⟩:S33),(⟨10,0,0,2,([]:List (S45)),0⟩:S33),(⟨8,0,0,0,([]:List (S45)),0⟩:S33)]:List (S33))) 0 a0_0 l0_1 a0_2 l0_3) else (none))) else (none))) else (none))) else (none))) else (none))=some r:=by first|(rw [hy793];with_reducible exact H)|(have H2_:=(Option.bind_some _ _).symm.trans H;rw [hy793];with_reducible exact H2_)|(have H2_:=(Option.bind_some _ _).symm.trans H;with_reducible exact H2_)|with_reducible exact H|(rw [hy793];exact H)|exact H
 have Ny793:=aK_ hy793
 clear hy793
 have c29:=yes_ H
 rw [if_pos c29] at H
 have LMc29:=aK_ c29
 clear c29
 obtain ⟨y796,hy796⟩:∃ y_:List (S33),y_=(y793 ++ l0_3):=⟨_,rfl⟩
 replace H:(if y796.length+l1_3.length<2199023255552 then ((some (([]:List Int):List Int)).bind fun y802=>(if y802.length+t783.length<17592186044416 then ((some (y802 ++ t783:List Int)).bind fun y805=>(if y805.length+t788.length<17592186044416 then ((some (y805 ++ t788:List Int)).bind fun y808=>(if y808.length<17592186044416 then (zAD.l0 kj6 t783 (y796 ++ l1_3) (y808 ++ [1]) (([(⟨6,0,0,0,([]:List (S45)),0⟩:S33),(⟨7,0,0,0,([]:List (S45)),0⟩:S33),(⟨9,0,0,2,([]:List (S45)),0⟩:S33),(⟨10,0,0,2,([]:List (S45)),0⟩:S33),(⟨8,0,0,0,([]:List (S45)),0⟩:S33)]:List (S33))) 0 a0_0 l0_1 a0_2 l0_3) else (none))) else (none))) else (none))) else (none))=some r:=by first|(rw [hy796];with_reducible exact H)|(have H2_:=(Option.bind_some _ _).symm.trans H;rw [hy796];with_reducible exact H2_)|(have H2_:=(Option.bind_some _ _).symm.trans H;with_reducible exact H2_)|with_reducible exact H|(rw [hy796];exact H)|exact H
 have Ny796:=aK_ hy796
 clear hy796
 have c30:=yes_ H
 rw [if_pos c30] at H
 have LMc30:=aK_ c30
 clear c30
 obtain ⟨y799,hy799⟩:∃ y_:List (S33),y_=(y796 ++ l1_3):=⟨_,rfl⟩
 replace H:((some (([]:List Int):List Int)).bind fun y802=>(if y802.length+t783.length<17592186044416 then ((some (y802 ++ t783:List Int)).bind fun y805=>(if y805.length+t788.length<17592186044416 then ((some (y805 ++ t788:List Int)).bind fun y808=>(if y808.length<17592186044416 then (zAD.l0 kj6 t783 y799 (y808 ++ [1]) (([(⟨6,0,0,0,([]:List (S45)),0⟩:S33),(⟨7,0,0,0,([]:List (S45)),0⟩:S33),(⟨9,0,0,2,([]:List (S45)),0⟩:S33),(⟨10,0,0,2,([]:List (S45)),0⟩:S33),(⟨8,0,0,0,([]:List (S45)),0⟩:S33)]:List (S33))) 0 a0_0 l0_1 a0_2 l0_3) else (none))) else (none))) else (none)))=some r:=by first|(rw [hy799];with_reducible exact H)|(have H2_:=(Option.bind_some _ _).symm.trans H;rw [hy799];with_reducible exact H2_)|(have H2_:=(Option.bind_some _ _).symm.trans H;with_reducible exact H2_)|with_reducible exact H|(rw [hy799];exact H)|exact H
 have Ny799:=aK_ hy799
 clear hy799
 obtain ⟨y802,hy802⟩:∃ y_:List Int,y_=(([]:List Int)):=⟨_,rfl⟩
 replace H:(if y802.length+t783.length<17592186044416 then ((some (y802 ++ t783:List Int)).bind fun y805=>(if y805.length+t788.length<17592186044416 then ((some (y805 ++ t788:List Int)).bind fun y808=>(if y808.length<17592186044416 then (zAD.l0 kj6 t783 y799 (y808 ++ [1]) (([(⟨6,0,0,0,([]:List (S45)),0⟩:S33),(⟨7,0,0,0,([]:List (S45)),0⟩:S33),(⟨9,0,0,2,([]:List (S45)),0⟩:S33),(⟨10,0,0,2,([]:List (S45)),0⟩:S33),(⟨8,0,0,0,([]:List (S45)),0⟩:S33)]:List (S33))) 0 a0_0 l0_1 a0_2 l0_3) else (none))) else (none))) else (none))=some r:=by first|(rw [hy802];with_reducible exact H)|(have H2_:=(Option.bind_some _ _).symm.trans H;rw [hy802];with_reducible exact H2_)|(have H2_:=(Option.bind_some _ _).symm.trans H;with_reducible exact H2_)|with_reducible exact H|(rw [hy802];exact H)|exact H
 have Ny802:=aK_ hy802
 clear hy802
 have c31:=yes_ H
 rw [if_pos c31] at H
 have LMc31:=aK_ c31
 clear c31
 obtain ⟨y805,hy805⟩:∃ y_:List Int,y_=(y802 ++ t783):=⟨_,rfl⟩
 replace H:(if y805.length+t788.length<17592186044416 then ((some (y805 ++ t788:List Int)).bind fun y808=>(if y808.length<17592186044416 then (zAD.l0 kj6 t783 y799 (y808 ++ [1]) (([(⟨6,0,0,0,([]:List (S45)),0⟩:S33),(⟨7,0,0,0,([]:List (S45)),0⟩:S33),(⟨9,0,0,2,([]:List (S45)),0⟩:S33),(⟨10,0,0,2,([]:List (S45)),0⟩:S33),(⟨8,0,0,0,([]:List (S45)),0⟩:S33)]:List (S33))) 0 a0_0 l0_1 a0_2 l0_3) else (none))) else (none))=some r:=by first|(rw [hy805];with_reducible exact H)|(have H2_:=(Option.bind_some _ _).symm.trans H;rw [hy805];with_reducible exact H2_)|(have H2_:=(Option.bind_some _ _).symm.trans H;with_reducible exact H2_)|with_reducible exact H|(rw [hy805];exact H)|exact H
 have Ny805:=aK_ hy805
 clear hy805
 have c32:=yes_ H
 rw [if_pos c32] at H
 have LMc32:=aK_ c32
 clear c32
 obtain ⟨y808,hy808⟩:∃ y_:List Int,y_=(y805 ++ t788):=⟨_,rfl⟩
 replace H:(if y808.length<17592186044416 then (zAD.l0 kj6 t783 y799 (y808 ++ [1]) (([(⟨6,0,0,0,([]:List (S45)),0⟩:S33),(⟨7,0,0,0,([]:List (S45)),0⟩:S33),(⟨9,0,0,2,([]:List (S45)),0⟩:S33),(⟨10,0,0,2,([]:List (S45)),0⟩:S33),(⟨8,0,0,0,([]:List (S45)),0⟩:S33)]:List (S33))) 0 a0_0 l0_1 a0_2 l0_3) else (none))=some r:=by first|(rw [hy808];with_reducible exact H)|(have H2_:=(Option.bind_some _ _).symm.trans H;rw [hy808];with_reducible exact H2_)|(have H2_:=(Option.bind_some _ _).symm.trans H;with_reducible exact H2_)|with_reducible exact H|(rw [hy808];exact H)|exact H
 have Ny808:=aK_ hy808
 clear hy808
 have c33:=yes_ H
 rw [if_pos c33] at H
 have LMc33:=aK_ c33
 clear c33
 obtain ⟨y811,hy811⟩:∃ y_:List Int,y_=(y808 ++ [1]):=⟨_,rfl⟩
 replace H:(zAD.l0 kj6 t783 y799 y811 (([(⟨6,0,0,0,([]:List (S45)),0⟩:S33),(⟨7,0,0,0,([]:List (S45)),0⟩:S33),(⟨9,0,0,2,([]:List (S45)),0⟩:S33),(⟨10,0,0,2,([]:List (S45)),0⟩:S33),(⟨8,0,0,0,([]:List (S45)),0⟩:S33)]:List (S33))) 0 a0_0 l0_1 a0_2 l0_3)=some r:=by first|(rw [hy811];with_reducible exact H)|(have H2_:=(Option.bind_some _ _).symm.trans H;rw [hy811];with_reducible exact H2_)|(have H2_:=(Option.bind_some _ _).symm.trans H;with_reducible exact H2_)|with_reducible exact H|(rw [hy811];exact H)|exact H
 have Ny811:=aK_ hy811
 clear hy811
 obtain ⟨y814,hy814⟩:∃ y_:List (S33),y_=(([(⟨6,0,0,0,([]:List (S45)),0⟩:S33),(⟨7,0,0,0,([]:List (S45)),0⟩:S33),(⟨9,0,0,2,([]:List (S45)),0⟩:S33),(⟨10,0,0,2,([]:List (S45)),0⟩:S33),(⟨8,0,0,0,([]:List (S45)),0⟩:S33)]:List (S33))):=⟨_,rfl⟩
 replace H:(zAD.l0 kj6 t783 y799 y811 y814 0 a0_0 l0_1 a0_2 l0_3)=some r:=by first|(rw [hy814];with_reducible exact H)|(have H2_:=(Option.bind_some _ _).symm.trans H;rw [hy814];with_reducible exact H2_)|(have H2_:=(Option.bind_some _ _).symm.trans H;with_reducible exact H2_)|with_reducible exact H|(rw [hy814];exact H)|exact H
 have Ny814:=aK_ hy814
 clear hy814
 have H':=aK_ H
 clear H
 go_wp2_with (first|((with_reducible refine zAQ (N:=63) rfl ?_);(try (refine zAU (by rfl) ?_;dsimp only));refine Kd.N_lit k33 _ 33 ?hg (N':=63) ?hd (xs:=([]:List (S33))) (inner:=[]) (ok:=(fun k_=>((P0_3_ k_∨P1_3_ k_)∨w.heap.size≤k_)∧some k_≠(v784:Value).ownBlock∧some k_≠(v789:Value).ownBlock∧k_≠gb780∧k_≠gb781)) (okp:=(fun k_=>((P0_3_ k_∨P1_3_ k_)∨w.heap.size≤k_)∧some k_≠(v784:Value).ownBlock∧some k_≠(v789:Value).ownBlock∧k_≠gb780∧k_≠gb781)) ?hr ?hp (fun _ hk=>hk) ((show ∀ k_,wc.heap.size≤k_→(fun k_=>((P0_3_ k_∨P1_3_ k_)∨w.heap.size≤k_)∧some k_≠(v784:Value).ownBlock∧some k_≠(v789:Value).ownBlock∧k_≠gb780∧k_≠gb781) k_ from fun k_ hk=>⟨(.inr (Nat.le_trans (zAE (aJ_ HB.out GE780.out GE781.out)) hk)),Kd.fresh' (Kd.R_lt (aR_ HO_5.out)) k_ hk,Kd.fresh' (Kd.R_lt (aR_ HO_8.out)) k_ hk,Kd.freshB (g:=gb780) (o:=.cells #[.string a0_0,.slice A0_1 l0_1.length c0_1,.int .i64 a0_2,.slice A0_3 l0_3.length c0_3] 25 (0,0)) (aB_ BK780.out) k_ hk,Kd.freshB (g:=gb781) (o:=.cells #[.string a0_0,.slice A0_1 l0_1.length c0_1,.int .i64 a0_2,.slice A1_3 l1_3.length c1_3] 25 (0,0)) (aB_ BK781.out) k_ hk⟩) _ (Nat.le_refl _)) (Below.refl _ _) (Nat.le_refl _) (by simp) ?_;(case hd=>rfl);(case hg=>rfl);(case hr=>first|(go_simp;done)|(go_simp;rfl));(case hp=>exact (Reps.none _ _));intro v794 w34 ho35 hb hg_ hnew_;clear hg_ hnew_;(first|rw [← Ny793.out] at ho35|(simp only [Int.reduceToNat] at ho35;rw [← Ny793.out] at ho35));have n0_:=aK_ (Kd.R_below (aR_ HO_5.out) hb);have n1_:=aK_ (Kd.R_below (aR_ HO_8.out) hb);have n2_:=aK_ (Kd.V_elder' (aV_ HO_781003.out) (Kd.N_base ho35) hb);have n3_:=aK_ (Kd.V_elder' (aV_ HO_782003.out) (Kd.N_base ho35) hb);have n4_:=aK_ (Kd.N_lower ho35 (zAE (aJ_ HB.out GE780.out GE781.out)));have n5_:=aK_ (zAN (g:=gb780) (o:=.cells #[.string a0_0,.slice A0_1 l0_1.length c0_1,.int .i64 a0_2,.slice A0_3 l0_3.length c0_3] 25 (0,0)) (aB_ BK780.out) hb);have n6_:=aK_ (zAN (g:=gb781) (o:=.cells #[.string a0_0,.slice A0_1 l0_1.length c0_1,.int .i64 a0_2,.slice A1_3 l1_3.length c1_3] 25 (0,0)) (aB_ BK781.out) hb);have n7_:=aK_ (zAH (aJ_ HB.out GE780.out GE781.out) hb);clear HO_5;clear HO_8;clear HO_781003;clear HO_782003;clear BK780;clear BK781;clear HB;have HO_5:=n0_;have HO_8:=n1_;have HO_781003:=n2_;have HO_782003:=n3_;have HO795:=n4_;have BK780:=n5_;have BK781:=n6_;have HB:=n7_;clear n0_ n1_ n2_ n3_ n4_ n5_ n6_ n7_;clear hb ho35;have hnb36:=NB780_781.out;have hnc36:=NB781_780.out;have hcz37_0:w34.cell? ⟨gb780,0,none⟩=some (.string a0_0):=(zAB BK780.out 0).trans rfl;have hcz37_1:w34.cell? ⟨gb780,1,none⟩=some (.slice A0_1 l0_1.length c0_1):=(zAB BK780.out 1).trans rfl;have hcz37_2:w34.cell? ⟨gb780,2,none⟩=some (.int .i64 a0_2):=(zAB BK780.out 2).trans rfl;have hcz37_3:w34.cell? ⟨gb780,3,none⟩=some (.slice A0_3 l0_3.length c0_3):=(zAB BK780.out 3).trans rfl;have hfz37_0:=zAA BK780.out 0;have hfz37_1:=zAA BK780.out 1;have hfz37_2:=zAA BK780.out 2;have hfz37_3:=zAA BK780.out 3)|((with_reducible refine gate_builtin (b:=.append) (xs:=#[.tmp 63,.tmp 65]) rfl ?_);(try (refine zAU (by rfl) ?_;dsimp only));at_builtin;refine Kd.N_append_rows k33 (w0:=w) w.heap.size rfl (.tmp 63) (.tmp 65) 23 33 (.agg #[(.int .i64 0),(.int .i64 0),(.int .i64 0),(.int .i64 0),(.slice none 0 0),(.int .i64 0)]) 64 rfl Tryd.underlying23 info33 rfl (by decide) (by omega) v794 y793 l0_3 _ _ _ (fun k_=>((P0_3_ k_∨P1_3_ k_)∨w.heap.size≤k_)∧some k_≠(v784:Value).ownBlock∧some k_≠(v789:Value).ownBlock∧k_≠gb780∧k_≠gb781) (fun k_=>((fun k_=>((P0_3_ k_∨P1_3_ k_)∨w.heap.size≤k_)∧some k_≠(v784:Value).ownBlock∧some k_≠(v789:Value).ownBlock∧k_≠gb780∧k_≠gb781)) k_∧some k_≠(v794:Value).ownBlock) rfl rfl ?aO ?aR (fun _ hk=>hk) ?aF ?aB ?aS ?aL ?_;(case aR=>exact (by skip;exact Kd.V_F (Kd.V_mono (ok':=(fun k_=>((fun k_=>((P0_3_ k_∨P1_3_ k_)∨w.heap.size≤k_)∧some k_≠(v784:Value).ownBlock∧some k_≠(v789:Value).ownBlock∧k_≠gb780∧k_≠gb781)) k_∧some k_≠(v794:Value).ownBlock)) (HO_781003.out) (fun k_ hk=>⟨⟨hk.1.1,⟨hk.1.2.1,⟨hk.1.2.2.1,⟨hk.1.2.2.2.1,hk.1.2.2.2.2⟩⟩⟩⟩,hk.2⟩))));(case aB=>exact (aJ_ HB.out GE780.out GE781.out));(case aF=>exact (fun k_ hk=>⟨(.inr (Nat.le_trans (zAE (aJ_ HB.out GE780.out GE781.out)) hk)),Kd.fresh' (Kd.R_lt (aR_ HO_5.out)) k_ hk,Kd.fresh' (Kd.R_lt (aR_ HO_8.out)) k_ hk,Kd.freshB (g:=gb780) (o:=.cells #[.string a0_0,.slice A0_1 l0_1.length c0_1,.int .i64 a0_2,.slice A0_3 l0_3.length c0_3] 25 (0,0)) (aB_ BK780.out) k_ hk,Kd.freshB (g:=gb781) (o:=.cells #[.string a0_0,.slice A0_1 l0_1.length c0_1,.int .i64 a0_2,.slice A1_3 l1_3.length c1_3] 25 (0,0)) (aB_ BK781.out) k_ hk⟩));(case aO=>exact (aN_ HO795.out));(case aS=>exact (zAE (aJ_ HB.out GE780.out GE781.out)));(case aL=>have:=LMc29.out;omega);intro v797 w38 ho hb hg hat;rw [← Ny796.out] at ho;have n0_:=aK_ (Kd.R_over' (aR_ HO_5.out) (Kd.N_typed (aN_ HO795.out)) (by decide) hg);have n1_:=aK_ (Kd.R_over' (aR_ HO_8.out) (Kd.N_typed (aN_ HO795.out)) (by decide) hg);have n2_:=aK_ (Kd.V_afterv (ok:=(fun k_=>((P0_3_ k_∨P1_3_ k_)∨w.heap.size≤k_)∧some k_≠(v784:Value).ownBlock∧some k_≠(v789:Value).ownBlock∧k_≠gb780∧k_≠gb781)) (aV_ HO_781003.out) hg hat);have n3_:=aK_ (Kd.V_afterv (ok:=(fun k_=>((P0_3_ k_∨P1_3_ k_)∨w.heap.size≤k_)∧some k_≠(v784:Value).ownBlock∧some k_≠(v789:Value).ownBlock∧k_≠gb780∧k_≠gb781)) (aV_ HO_782003.out) hg hat);have n4_:=aK_ (blk_grown (g:=gb780) (o:=.cells #[.string a0_0,.slice A0_1 l0_1.length c0_1,.int .i64 a0_2,.slice A0_3 l0_3.length c0_3] 25 (0,0)) (aB_ BK780.out) hg (Kd.N_ne HO795.out BK780.out (by decide)));have n5_:=aK_ (blk_grown (g:=gb781) (o:=.cells #[.string a0_0,.slice A0_1 l0_1.length c0_1,.int .i64 a0_2,.slice A1_3 l1_3.length c1_3] 25 (0,0)) (aB_ BK781.out) hg (Kd.N_ne HO795.out BK781.out (by decide)));have n6_:=aK_ (hb);have n7_:=aK_ (ho);clear HO_5;clear HO_8;clear HO_781003;clear HO_782003;clear BK780;clear BK781;clear HB;clear HO795;have HO_5:=n0_;have HO_8:=n1_;have HO_781003:=n2_;have HO_782003:=n3_;have BK780:=n4_;have BK781:=n5_;have HB:=n6_;have HO798:=n7_;clear n0_ n1_ n2_ n3_ n4_ n5_ n6_ n7_;clear ho hb hg hat;have hcz39_0:w38.cell? ⟨gb781,0,none⟩=some (.string a0_0):=(zAB BK781.out 0).trans rfl;have hcz39_1:w38.cell? ⟨gb781,1,none⟩=some (.slice A0_1 l0_1.length c0_1):=(zAB BK781.out 1).trans rfl;have hcz39_2:w38.cell? ⟨gb781,2,none⟩=some (.int .i64 a0_2):=(zAB BK781.out 2).trans rfl;have hcz39_3:w38.cell? ⟨gb781,3,none⟩=some (.slice A1_3 l1_3.length c1_3):=(zAB BK781.out 3).trans rfl;have hfz39_0:=zAA BK781.out 0;have hfz39_1:=zAA BK781.out 1;have hfz39_2:=zAA BK781.out 2;have hfz39_3:=zAA BK781.out 3)|((with_reducible refine gate_builtin (b:=.append) (xs:=#[.tmp 67,.tmp 69]) rfl ?_);(try (refine zAU (by rfl) ?_;dsimp only));at_builtin;refine Kd.N_append_rows k33 (w0:=w) w.heap.size rfl (.tmp 67) (.tmp 69) 23 33 (.agg #[(.int .i64 0),(.int .i64 0),(.int .i64 0),(.int .i64 0),(.slice none 0 0),(.int .i64 0)]) 64 rfl Tryd.underlying23 info33 rfl (by decide) (by omega) v797 y796 l1_3 _ _ _ (fun k_=>((P0_3_ k_∨P1_3_ k_)∨w.heap.size≤k_)∧some k_≠(v784:Value).ownBlock∧some k_≠(v789:Value).ownBlock∧k_≠gb780∧k_≠gb781) (fun k_=>((fun k_=>((P0_3_ k_∨P1_3_ k_)∨w.heap.size≤k_)∧some k_≠(v784:Value).ownBlock∧some k_≠(v789:Value).ownBlock∧k_≠gb780∧k_≠gb781)) k_∧some k_≠(v797:Value).ownBlock) rfl rfl ?aO ?aR (fun _ hk=>hk) ?aF ?aB ?aS ?aL ?_;(case aR=>exact (by skip;exact Kd.V_F (Kd.V_mono (ok':=(fun k_=>((fun k_=>((P0_3_ k_∨P1_3_ k_)∨w.heap.size≤k_)∧some k_≠(v784:Value).ownBlock∧some k_≠(v789:Value).ownBlock∧k_≠gb780∧k_≠gb781)) k_∧some k_≠(v797:Value).ownBlock)) (HO_782003.out) (fun k_ hk=>⟨⟨hk.1.1,⟨hk.1.2.1,⟨hk.1.2.2.1,⟨hk.1.2.2.2.1,hk.1.2.2.2.2⟩⟩⟩⟩,hk.2⟩))));(case aB=>exact (aJ_ HB.out GE780.out GE781.out));(case aF=>exact (fun k_ hk=>⟨(.inr (Nat.le_trans (zAE (aJ_ HB.out GE780.out GE781.out)) hk)),Kd.fresh' (Kd.R_lt (aR_ HO_5.out)) k_ hk,Kd.fresh' (Kd.R_lt (aR_ HO_8.out)) k_ hk,Kd.freshB (g:=gb780) (o:=.cells #[.string a0_0,.slice A0_1 l0_1.length c0_1,.int .i64 a0_2,.slice A0_3 l0_3.length c0_3] 25 (0,0)) (aB_ BK780.out) k_ hk,Kd.freshB (g:=gb781) (o:=.cells #[.string a0_0,.slice A0_1 l0_1.length c0_1,.int .i64 a0_2,.slice A1_3 l1_3.length c1_3] 25 (0,0)) (aB_ BK781.out) k_ hk⟩));(case aO=>exact (aN_ HO798.out));(case aS=>exact (zAE (aJ_ HB.out GE780.out GE781.out)));(case aL=>have:=LMc30.out;omega);intro v800 w40 ho hb hg hat;rw [← Ny799.out] at ho;have n0_:=aK_ (Kd.R_over' (aR_ HO_5.out) (Kd.N_typed (aN_ HO798.out)) (by decide) hg);have n1_:=aK_ (Kd.R_over' (aR_ HO_8.out) (Kd.N_typed (aN_ HO798.out)) (by decide) hg);have n2_:=aK_ (Kd.V_afterv (ok:=(fun k_=>((P0_3_ k_∨P1_3_ k_)∨w.heap.size≤k_)∧some k_≠(v784:Value).ownBlock∧some k_≠(v789:Value).ownBlock∧k_≠gb780∧k_≠gb781)) (aV_ HO_781003.out) hg hat);have n3_:=aK_ (Kd.V_afterv (ok:=(fun k_=>((P0_3_ k_∨P1_3_ k_)∨w.heap.size≤k_)∧some k_≠(v784:Value).ownBlock∧some k_≠(v789:Value).ownBlock∧k_≠gb780∧k_≠gb781)) (aV_ HO_782003.out) hg hat);have n4_:=aK_ (blk_grown (g:=gb780) (o:=.cells #[.string a0_0,.slice A0_1 l0_1.length c0_1,.int .i64 a0_2,.slice A0_3 l0_3.length c0_3] 25 (0,0)) (aB_ BK780.out) hg (Kd.N_ne HO798.out BK780.out (by decide)));have n5_:=aK_ (blk_grown (g:=gb781) (o:=.cells #[.string a0_0,.slice A0_1 l0_1.length c0_1,.int .i64 a0_2,.slice A1_3 l1_3.length c1_3] 25 (0,0)) (aB_ BK781.out) hg (Kd.N_ne HO798.out BK781.out (by decide)));have n6_:=aK_ (hb);have n7_:=aK_ (ho);clear HO_5;clear HO_8;clear HO_781003;clear HO_782003;clear BK780;clear BK781;clear HB;clear HO798;have HO_5:=n0_;have HO_8:=n1_;have HO_781003:=n2_;have HO_782003:=n3_;have BK780:=n4_;have BK781:=n5_;have HB:=n6_;have HO801:=n7_;clear n0_ n1_ n2_ n3_ n4_ n5_ n6_ n7_;clear ho hb hg hat)|((with_reducible refine zAQ (N:=71) rfl ?_);(try (refine zAU (by rfl) ?_;dsimp only));refine Kd.R_lit (Kd.int .i64) _ 3 ?hg (N:=71) ?hd (xs:=([]:List Int)) (inner:=[]) (ok:=fun _=>True) (okp:=fun _=>True) ?hr ?hp (fun _ hk=>hk) trivial (Below.refl _ _) (Nat.le_refl _) (by simp) ?_;(case hd=>rfl);(case hg=>rfl);(case hr=>first|(go_simp;done)|(go_simp;rfl));(case hp=>exact (Reps.none _ _));intro v803 w41 ho42 hb hg_ hnew_;clear hg_ hnew_;(first|rw [← Ny802.out] at ho42|(simp only [Int.reduceToNat] at ho42;rw [← Ny802.out] at ho42));have n0_:=aK_ (Kd.R_elder' (aR_ HO_5.out) (Kd.R_base ho42) hb);have n1_:=aK_ (Kd.R_elder' (aR_ HO_8.out) (Kd.R_base ho42) hb);have n2_:=aK_ (Kd.V_elder' (aV_ HO_781003.out) (Kd.R_base ho42) hb);have n3_:=aK_ (Kd.V_elder' (aV_ HO_782003.out) (Kd.R_base ho42) hb);have n4_:=aK_ (Kd.N_elder' (aN_ HO801.out) (Kd.R_base ho42) hb);have n5_:=aK_ (Kd.R_lower (Kd.R_new' (Kd.R_new' (Kd.R_newM (M:=fun k_=>(w.heap.size≤k_)) ho42 (zAE (aJ_ HB.out GE780.out GE781.out)) (fun k_ h_=>h_)) (Kd.R_lt (aR_ HO_5.out))) (Kd.R_lt (aR_ HO_8.out))) (zAE (aJ_ HB.out GE780.out GE781.out)));have n6_:=aK_ (zAN (g:=gb780) (o:=.cells #[.string a0_0,.slice A0_1 l0_1.length c0_1,.int .i64 a0_2,.slice A0_3 l0_3.length c0_3] 25 (0,0)) (aB_ BK780.out) hb);have n7_:=aK_ (zAN (g:=gb781) (o:=.cells #[.string a0_0,.slice A0_1 l0_1.length c0_1,.int .i64 a0_2,.slice A1_3 l1_3.length c1_3] 25 (0,0)) (aB_ BK781.out) hb);have n8_:=aK_ (zAH (aJ_ HB.out GE780.out GE781.out) hb);clear HO_5;clear HO_8;clear HO_781003;clear HO_782003;clear HO801;clear BK780;clear BK781;clear HB;have HO_5:=n0_;have HO_8:=n1_;have HO_781003:=n2_;have HO_782003:=n3_;have HO801:=n4_;have HO804:=n5_;have BK780:=n6_;have BK781:=n7_;have HB:=n8_;clear n0_ n1_ n2_ n3_ n4_ n5_ n6_ n7_ n8_;clear hb ho42;obtain ⟨Ao44,co44,eo44⟩:=Kd.R_slice HO_5.out;subst eo44)|((with_reducible refine gate_builtin (b:=.append) (xs:=#[.tmp 71,.tmp 72]) rfl ?_);(try (refine zAU (by rfl) ?_;dsimp only));at_builtin;refine Kd.R_append_rows (Kd.int .i64) (w0:=w) w.heap.size rfl (.tmp 71) (.tmp 72) 36 3 (.int .i64 0) 8 rfl Tryd.underlying36 info3 rfl (by decide) (by omega) v803 y802 t783 _ _ _ (fun k_=>(w.heap.size≤k_)∧some k_≠(.slice Ao44 t783.length co44:Value).ownBlock∧some k_≠(v789:Value).ownBlock) (fun _=>False) rfl rfl ?aO ?aR (fun _ _ h=>h) (fun _ h=>h.elim) ?aF ?aB ?aS ?aL ?_;(case aR=>repeat (first|exact (Kd.R_reads' HO_5.out).2.2|(with_reducible refine Kd.C_alloc ?_ _)|(with_reducible refine Kd.C_drewN ?_ _)|(with_reducible refine Kd.C_drew ?_)));(case aB=>exact (aJ_ HB.out GE780.out GE781.out));(case aF=>exact (fun k_ hk=>⟨(Nat.le_trans (zAE (aJ_ HB.out GE780.out GE781.out)) hk),Kd.fresh' (Kd.R_lt (aR_ HO_5.out)) k_ hk,Kd.fresh' (Kd.R_lt (aR_ HO_8.out)) k_ hk⟩));(case aO=>exact (by refine aR_ ?_;exact Kd.R_mono HO804.out (fun _ hk=>⟨hk.1.1.1,⟨hk.1.2,hk.2⟩⟩)));(case aS=>exact (zAE (aJ_ HB.out GE780.out GE781.out)));(case aL=>have:=LMc31.out;omega);intro v806 w43 ho hb hg hat;rw [← Ny805.out] at ho;have n0_:=aK_ (Kd.R_after (ok:=(fun k_=>(w.heap.size≤k_)∧some k_≠(v789:Value).ownBlock)) (aR_ HO_5.out) hg hat);have n1_:=aK_ (Kd.R_after (ok:=(fun k_=>(w.heap.size≤k_)∧some k_≠(.slice Ao44 t783.length co44:Value).ownBlock)) (aR_ HO_8.out) hg hat);have n2_:=aK_ (Kd.V_afterv (ok:=(fun k_=>((P0_3_ k_∨P1_3_ k_)∨w.heap.size≤k_)∧some k_≠(.slice Ao44 t783.length co44:Value).ownBlock∧some k_≠(v789:Value).ownBlock∧some k_≠(v800:Value).ownBlock∧k_≠gb780∧k_≠gb781)) (by refine aV_ ?_;exact Kd.V_mono HO_781003.out (fun _ hk=>⟨⟨hk.1.1.1,⟨hk.1.1.2.1,⟨hk.1.1.2.2.1,⟨hk.1.2,⟨hk.1.1.2.2.2.1,hk.1.1.2.2.2.2⟩⟩⟩⟩⟩,hk.2⟩)) hg hat);have n3_:=aK_ (Kd.V_afterv (ok:=(fun k_=>((P0_3_ k_∨P1_3_ k_)∨w.heap.size≤k_)∧some k_≠(.slice Ao44 t783.length co44:Value).ownBlock∧some k_≠(v789:Value).ownBlock∧some k_≠(v800:Value).ownBlock∧k_≠gb780∧k_≠gb781)) (by refine aV_ ?_;exact Kd.V_mono HO_782003.out (fun _ hk=>⟨⟨hk.1.1.1,⟨hk.1.1.2.1,⟨hk.1.1.2.2.1,⟨hk.1.2,⟨hk.1.1.2.2.2.1,hk.1.1.2.2.2.2⟩⟩⟩⟩⟩,hk.2⟩)) hg hat);have n4_:=aK_ (blk_grown (g:=gb780) (o:=.cells #[.string a0_0,.slice A0_1 l0_1.length c0_1,.int .i64 a0_2,.slice A0_3 l0_3.length c0_3] 25 (0,0)) (aB_ BK780.out) hg (Kd.R_ne HO804.out BK780.out (by decide)));have n5_:=aK_ (blk_grown (g:=gb781) (o:=.cells #[.string a0_0,.slice A0_1 l0_1.length c0_1,.int .i64 a0_2,.slice A1_3 l1_3.length c1_3] 25 (0,0)) (aB_ BK781.out) hg (Kd.R_ne HO804.out BK781.out (by decide)));have n6_:=aK_ (Kd.N_afterv (ok:=(fun k_=>((P0_3_ k_∨P1_3_ k_)∨w.heap.size≤k_)∧some k_≠(.slice Ao44 t783.length co44:Value).ownBlock∧some k_≠(v789:Value).ownBlock∧k_≠gb780∧k_≠gb781)) (aN_ HO801.out) hg hat);have n7_:=aK_ (hb);have n8_:=aK_ (ho);clear HO_5;clear HO_8;clear HO_781003;clear HO_782003;clear BK780;clear BK781;clear HO801;clear HB;clear HO804;have HO_5:=n0_;have HO_8:=n1_;have HO_781003:=n2_;have HO_782003:=n3_;have BK780:=n4_;have BK781:=n5_;have HO801:=n6_;have HB:=n7_;have HO807:=n8_;clear n0_ n1_ n2_ n3_ n4_ n5_ n6_ n7_ n8_;clear ho hb hg hat;obtain ⟨Ao46,co46,eo46⟩:=Kd.R_slice HO_8.out;subst eo46)|((with_reducible refine gate_builtin (b:=.append) (xs:=#[.tmp 74,.tmp 75]) rfl ?_);(try (refine zAU (by rfl) ?_;dsimp only));at_builtin;refine Kd.R_append_rows (Kd.int .i64) (w0:=w) w.heap.size rfl (.tmp 74) (.tmp 75) 36 3 (.int .i64 0) 8 rfl Tryd.underlying36 info3 rfl (by decide) (by omega) v806 y805 t788 _ _ _ (fun k_=>(w.heap.size≤k_)∧some k_≠(.slice Ao44 t783.length co44:Value).ownBlock∧some k_≠(.slice Ao46 t788.length co46:Value).ownBlock) (fun _=>False) rfl rfl ?aO ?aR (fun _ _ h=>h) (fun _ h=>h.elim) ?aF ?aB ?aS ?aL ?_;(case aR=>repeat (first|exact (Kd.R_reads' HO_8.out).2.2|(with_reducible refine Kd.C_alloc ?_ _)|(with_reducible refine Kd.C_drewN ?_ _)|(with_reducible refine Kd.C_drew ?_)));(case aB=>exact (aJ_ HB.out GE780.out GE781.out));(case aF=>exact (fun k_ hk=>⟨(Nat.le_trans (zAE (aJ_ HB.out GE780.out GE781.out)) hk),Kd.fresh' (Kd.R_lt (aR_ HO_5.out)) k_ hk,Kd.fresh' (Kd.R_lt (aR_ HO_8.out)) k_ hk⟩));(case aO=>exact (aR_ HO807.out));(case aS=>exact (zAE (aJ_ HB.out GE780.out GE781.out)));(case aL=>have:=LMc32.out;omega);intro v809 w45 ho hb hg hat;rw [← Ny808.out] at ho;have n0_:=aK_ (Kd.R_after (ok:=(fun k_=>(w.heap.size≤k_)∧some k_≠(.slice Ao46 t788.length co46:Value).ownBlock)) (aR_ HO_5.out) hg hat);have n1_:=aK_ (Kd.R_after (ok:=(fun k_=>(w.heap.size≤k_)∧some k_≠(.slice Ao44 t783.length co44:Value).ownBlock)) (aR_ HO_8.out) hg hat);have n2_:=aK_ (Kd.V_afterv (ok:=(fun k_=>((P0_3_ k_∨P1_3_ k_)∨w.heap.size≤k_)∧some k_≠(.slice Ao44 t783.length co44:Value).ownBlock∧some k_≠(.slice Ao46 t788.length co46:Value).ownBlock∧some k_≠(v800:Value).ownBlock∧k_≠gb780∧k_≠gb781)) (aV_ HO_781003.out) hg hat);have n3_:=aK_ (Kd.V_afterv (ok:=(fun k_=>((P0_3_ k_∨P1_3_ k_)∨w.heap.size≤k_)∧some k_≠(.slice Ao44 t783.length co44:Value).ownBlock∧some k_≠(.slice Ao46 t788.length co46:Value).ownBlock∧some k_≠(v800:Value).ownBlock∧k_≠gb780∧k_≠gb781)) (aV_ HO_782003.out) hg hat);have n4_:=aK_ (blk_grown (g:=gb780) (o:=.cells #[.string a0_0,.slice A0_1 l0_1.length c0_1,.int .i64 a0_2,.slice A0_3 l0_3.length c0_3] 25 (0,0)) (aB_ BK780.out) hg (Kd.R_ne HO807.out BK780.out (by decide)));have n5_:=aK_ (blk_grown (g:=gb781) (o:=.cells #[.string a0_0,.slice A0_1 l0_1.length c0_1,.int .i64 a0_2,.slice A1_3 l1_3.length c1_3] 25 (0,0)) (aB_ BK781.out) hg (Kd.R_ne HO807.out BK781.out (by decide)));have n6_:=aK_ (Kd.N_afterv (ok:=(fun k_=>((P0_3_ k_∨P1_3_ k_)∨w.heap.size≤k_)∧some k_≠(.slice Ao44 t783.length co44:Value).ownBlock∧some k_≠(.slice Ao46 t788.length co46:Value).ownBlock∧k_≠gb780∧k_≠gb781)) (aN_ HO801.out) hg hat);have n7_:=aK_ (hb);have n8_:=aK_ (ho);clear HO_5;clear HO_8;clear HO_781003;clear HO_782003;clear BK780;clear BK781;clear HO801;clear HB;clear HO807;have HO_5:=n0_;have HO_8:=n1_;have HO_781003:=n2_;have HO_782003:=n3_;have BK780:=n4_;have BK781:=n5_;have HO801:=n6_;have HB:=n7_;have HO810:=n8_;clear n0_ n1_ n2_ n3_ n4_ n5_ n6_ n7_ n8_;clear ho hb hg hat)|((with_reducible refine gate_builtin (b:=.append) (xs:=#[.tmp 77,.tmp 78]) rfl ?_);(try (refine zAU (by rfl) ?_;dsimp only));at_builtin;refine Kd.R_append (Kd.int .i64) (w0:=w) w.heap.size rfl (.tmp 77) (.tmp 78) 36 3 (.int .i64 0) 8 rfl Tryd.underlying36 info3 rfl (by decide) (by omega) v809 y808 1 [.int .i64 1] (fun k_=>(w.heap.size≤k_)∧some k_≠(.slice Ao44 t783.length co44:Value).ownBlock∧some k_≠(.slice Ao46 t788.length co46:Value).ownBlock) (fun _=>False) rfl rfl ?aP (fun _ hk=>hk.elim) ?aF ?aO ?aB ?aS ?aL ?_;(case aP=>exact rfl);(case aB=>exact (aJ_ HB.out GE780.out GE781.out));(case aF=>exact (fun k_ hk=>⟨(Nat.le_trans (zAE (aJ_ HB.out GE780.out GE781.out)) hk),Kd.fresh' (Kd.R_lt (aR_ HO_5.out)) k_ hk,Kd.fresh' (Kd.R_lt (aR_ HO_8.out)) k_ hk⟩));(case aO=>exact (aR_ HO810.out));(case aS=>exact (zAE (aJ_ HB.out GE780.out GE781.out)));(case aL=>have:=LMc33.out;omega);intro v812 w47 ho hb hg hat;rw [← Ny811.out] at ho;have n0_:=aK_ (Kd.R_after (ok:=(fun k_=>(w.heap.size≤k_)∧some k_≠(.slice Ao46 t788.length co46:Value).ownBlock)) (aR_ HO_5.out) hg hat);have n1_:=aK_ (Kd.R_after (ok:=(fun k_=>(w.heap.size≤k_)∧some k_≠(.slice Ao44 t783.length co44:Value).ownBlock)) (aR_ HO_8.out) hg hat);have n2_:=aK_ (Kd.V_afterv (ok:=(fun k_=>((P0_3_ k_∨P1_3_ k_)∨w.heap.size≤k_)∧some k_≠(.slice Ao44 t783.length co44:Value).ownBlock∧some k_≠(.slice Ao46 t788.length co46:Value).ownBlock∧some k_≠(v800:Value).ownBlock∧k_≠gb780∧k_≠gb781)) (aV_ HO_781003.out) hg hat);have n3_:=aK_ (Kd.V_afterv (ok:=(fun k_=>((P0_3_ k_∨P1_3_ k_)∨w.heap.size≤k_)∧some k_≠(.slice Ao44 t783.length co44:Value).ownBlock∧some k_≠(.slice Ao46 t788.length co46:Value).ownBlock∧some k_≠(v800:Value).ownBlock∧k_≠gb780∧k_≠gb781)) (aV_ HO_782003.out) hg hat);have n4_:=aK_ (blk_grown (g:=gb780) (o:=.cells #[.string a0_0,.slice A0_1 l0_1.length c0_1,.int .i64 a0_2,.slice A0_3 l0_3.length c0_3] 25 (0,0)) (aB_ BK780.out) hg (Kd.R_ne HO810.out BK780.out (by decide)));have n5_:=aK_ (blk_grown (g:=gb781) (o:=.cells #[.string a0_0,.slice A0_1 l0_1.length c0_1,.int .i64 a0_2,.slice A1_3 l1_3.length c1_3] 25 (0,0)) (aB_ BK781.out) hg (Kd.R_ne HO810.out BK781.out (by decide)));have n6_:=aK_ (Kd.N_afterv (ok:=(fun k_=>((P0_3_ k_∨P1_3_ k_)∨w.heap.size≤k_)∧some k_≠(.slice Ao44 t783.length co44:Value).ownBlock∧some k_≠(.slice Ao46 t788.length co46:Value).ownBlock∧k_≠gb780∧k_≠gb781)) (aN_ HO801.out) hg hat);have n7_:=aK_ (hb);have n8_:=aK_ (ho);clear HO_5;clear HO_8;clear HO_781003;clear HO_782003;clear BK780;clear BK781;clear HO801;clear HB;clear HO810;have HO_5:=n0_;have HO_8:=n1_;have HO_781003:=n2_;have HO_782003:=n3_;have BK780:=n4_;have BK781:=n5_;have HO801:=n6_;have HB:=n7_;have HO813:=n8_;clear n0_ n1_ n2_ n3_ n4_ n5_ n6_ n7_ n8_;clear ho hb hg hat)|((with_reducible refine zAQ (N:=85) rfl ?_);(try (refine zAU (by rfl) ?_;dsimp only));refine Kd.N_lit k33 _ 33 ?hg (N':=85) ?hd (xs:=([(⟨6,0,0,0,([]:List (S45)),0⟩:S33),(⟨7,0,0,0,([]:List (S45)),0⟩:S33),(⟨9,0,0,2,([]:List (S45)),0⟩:S33),(⟨10,0,0,2,([]:List (S45)),0⟩:S33),(⟨8,0,0,0,([]:List (S45)),0⟩:S33)]:List (S33))) (inner:=[.int .i64 6,.int .i64 0,.int .i64 0,.int .i64 0,.slice none 0 0,.int .i64 0,.int .i64 7,.int .i64 0,.int .i64 0,.int .i64 0,.slice none 0 0,.int .i64 0,.int .i64 9,.int .i64 0,.int .i64 0,.int .i64 2,.slice none 0 0,.int .i64 0,.int .i64 10,.int .i64 0,.int .i64 0,.int .i64 2,.slice none 0 0,.int .i64 0,.int .i64 8,.int .i64 0,.int .i64 0,.int .i64 0,.slice none 0 0,.int .i64 0]) (ok:=(fun k_=>((P0_3_ k_∨P1_3_ k_)∨w.heap.size≤k_)∧some k_≠(.slice Ao44 t783.length co44:Value).ownBlock∧some k_≠(.slice Ao46 t788.length co46:Value).ownBlock∧some k_≠(v800:Value).ownBlock∧some k_≠(v812:Value).ownBlock∧k_≠gb780∧k_≠gb781)) (okp:=(fun k_=>((P0_3_ k_∨P1_3_ k_)∨w.heap.size≤k_)∧some k_≠(.slice Ao44 t783.length co44:Value).ownBlock∧some k_≠(.slice Ao46 t788.length co46:Value).ownBlock∧some k_≠(v800:Value).ownBlock∧some k_≠(v812:Value).ownBlock∧k_≠gb780∧k_≠gb781)) ?hr ?hp (fun _ hk=>hk) ((show ∀ k_,w47.heap.size≤k_→(fun k_=>((P0_3_ k_∨P1_3_ k_)∨w.heap.size≤k_)∧some k_≠(.slice Ao44 t783.length co44:Value).ownBlock∧some k_≠(.slice Ao46 t788.length co46:Value).ownBlock∧some k_≠(v800:Value).ownBlock∧some k_≠(v812:Value).ownBlock∧k_≠gb780∧k_≠gb781) k_ from fun k_ hk=>⟨(.inr (Nat.le_trans (zAE (aJ_ HB.out GE780.out GE781.out)) hk)),Kd.fresh' (Kd.R_lt (aR_ HO_5.out)) k_ hk,Kd.fresh' (Kd.R_lt (aR_ HO_8.out)) k_ hk,Kd.fresh' (Kd.N_lt (aN_ HO801.out)) k_ hk,Kd.fresh' (Kd.R_lt (aR_ HO813.out)) k_ hk,Kd.freshB (g:=gb780) (o:=.cells #[.string a0_0,.slice A0_1 l0_1.length c0_1,.int .i64 a0_2,.slice A0_3 l0_3.length c0_3] 25 (0,0)) (aB_ BK780.out) k_ hk,Kd.freshB (g:=gb781) (o:=.cells #[.string a0_0,.slice A0_1 l0_1.length c0_1,.int .i64 a0_2,.slice A1_3 l1_3.length c1_3] 25 (0,0)) (aB_ BK781.out) k_ hk⟩) _ (Nat.le_refl _)) (Below.refl _ _) (Nat.le_refl _) (by simp) ?_;(case hd=>rfl);(case hg=>rfl);(case hr=>first|(go_simp;done)|(go_simp;rfl));(case hp=>exact (Reps.c6 (show Kd.FK k33 _ _ (⟨6,0,0,0,([]:List (S45)),0⟩:S33) [.int .i64 6,.int .i64 0,.int .i64 0,.int .i64 0,.slice none 0 0,.int .i64 0] from (k33_mkF _ _ (⟨6,0,0,0,([]:List (S45)),0⟩:S33) (Nat.le_refl _) (Kd.F_nil _ _ _))) (Reps.c6 (show Kd.FK k33 _ _ (⟨7,0,0,0,([]:List (S45)),0⟩:S33) [.int .i64 7,.int .i64 0,.int .i64 0,.int .i64 0,.slice none 0 0,.int .i64 0] from (k33_mkF _ _ (⟨7,0,0,0,([]:List (S45)),0⟩:S33) (Nat.le_refl _) (Kd.F_nil _ _ _))) (Reps.c6 (show Kd.FK k33 _ _ (⟨9,0,0,2,([]:List (S45)),0⟩:S33) [.int .i64 9,.int .i64 0,.int .i64 0,.int .i64 2,.slice none 0 0,.int .i64 0] from (k33_mkF _ _ (⟨9,0,0,2,([]:List (S45)),0⟩:S33) (Nat.le_refl _) (Kd.F_nil _ _ _))) (Reps.c6 (show Kd.FK k33 _ _ (⟨10,0,0,2,([]:List (S45)),0⟩:S33) [.int .i64 10,.int .i64 0,.int .i64 0,.int .i64 2,.slice none 0 0,.int .i64 0] from (k33_mkF _ _ (⟨10,0,0,2,([]:List (S45)),0⟩:S33) (Nat.le_refl _) (Kd.F_nil _ _ _))) (Reps.c6 (show Kd.FK k33 _ _ (⟨8,0,0,0,([]:List (S45)),0⟩:S33) [.int .i64 8,.int .i64 0,.int .i64 0,.int .i64 0,.slice none 0 0,.int .i64 0] from (k33_mkF _ _ (⟨8,0,0,0,([]:List (S45)),0⟩:S33) (Nat.le_refl _) (Kd.F_nil _ _ _))) (Reps.none _ _)))))));intro v815 w48 ho49 hb hg_ hnew_;clear hg_ hnew_;(first|rw [← Ny814.out] at ho49|(simp only [Int.reduceToNat] at ho49;rw [← Ny814.out] at ho49));have n0_:=aK_ (Kd.R_below (aR_ HO_5.out) hb);have n1_:=aK_ (Kd.R_below (aR_ HO_8.out) hb);have n2_:=aK_ (Kd.V_elder' (aV_ HO_781003.out) (Kd.N_base ho49) hb);have n3_:=aK_ (Kd.V_elder' (aV_ HO_782003.out) (Kd.N_base ho49) hb);have n4_:=aK_ (Kd.N_elder' (aN_ HO801.out) (Kd.N_base ho49) hb);have n5_:=aK_ (Kd.R_below (aR_ HO813.out) hb);have n6_:=aK_ (Kd.N_lower ho49 (zAE (aJ_ HB.out GE780.out GE781.out)));have n7_:=aK_ (zAN (g:=gb780) (o:=.cells #[.string a0_0,.slice A0_1 l0_1.length c0_1,.int .i64 a0_2,.slice A0_3 l0_3.length c0_3] 25 (0,0)) (aB_ BK780.out) hb);have n8_:=aK_ (zAN (g:=gb781) (o:=.cells #[.string a0_0,.slice A0_1 l0_1.length c0_1,.int .i64 a0_2,.slice A1_3 l1_3.length c1_3] 25 (0,0)) (aB_ BK781.out) hb);have n9_:=aK_ (zAH (aJ_ HB.out GE780.out GE781.out) hb);clear HO_5;clear HO_8;clear HO_781003;clear HO_782003;clear HO801;clear HO813;clear BK780;clear BK781;clear HB;have HO_5:=n0_;have HO_8:=n1_;have HO_781003:=n2_;have HO_782003:=n3_;have HO801:=n4_;have HO813:=n5_;have HO816:=n6_;have BK780:=n7_;have BK781:=n8_;have HB:=n9_;clear n0_ n1_ n2_ n3_ n4_ n5_ n6_ n7_ n8_ n9_;clear hb ho49))
 (try simp only [Act.put,List.setIfInBounds_toArray,List.set_cons_zero,List.set_cons_succ])
 go_loopg [14] kj6 (fun kq v14 w'=>∃ (x14_2:Int),v14 = .int .i64 x14_2∧zAO (zAD.l0 kq t783 y799 y811 y814 x14_2 a0_0 l0_1 a0_2 l0_3=some r)∧zAO (kq≤kj6)∧zAO (Kd.R (Kd.int .i64) 3 w' w.heap.size (fun k_=>(w.heap.size≤k_)∧some k_≠(v812:Value).ownBlock) (.slice Ao44 t783.length co44) t783)∧zAO (Kd.N k33 33 w' w.heap.size (fun k_=>((P0_3_ k_∨P1_3_ k_)∨w.heap.size≤k_)∧some k_≠((.slice Ao44 t783.length co44):Value).ownBlock∧some k_≠(v812:Value).ownBlock∧some k_≠(v815:Value).ownBlock∧k_≠gb780∧k_≠gb781) v800 y799)∧zAO (Kd.R (Kd.int .i64) 3 w' w.heap.size (fun k_=>(w.heap.size≤k_)∧some k_≠((.slice Ao44 t783.length co44):Value).ownBlock) v812 y811)∧zAO (Kd.N k33 33 w' w.heap.size (fun k_=>((P0_3_ k_∨P1_3_ k_)∨w.heap.size≤k_)∧some k_≠((.slice Ao44 t783.length co44):Value).ownBlock∧some k_≠(v800:Value).ownBlock∧some k_≠(v812:Value).ownBlock∧k_≠gb780∧k_≠gb781) v815 y814)∧zAO (Kd.V k33 33 w' w.heap.size (fun k_=>((P0_3_ k_∨P1_3_ k_)∨w.heap.size≤k_)∧some k_≠((.slice Ao44 t783.length co44):Value).ownBlock∧some k_≠(v800:Value).ownBlock∧some k_≠(v812:Value).ownBlock∧some k_≠(v815:Value).ownBlock∧k_≠gb780∧k_≠gb781) (.slice A0_3 l0_3.length c0_3) l0_3)∧zAO (Kd.V k33 33 w' w.heap.size (fun k_=>((P0_3_ k_∨P1_3_ k_)∨w.heap.size≤k_)∧some k_≠((.slice Ao44 t783.length co44):Value).ownBlock∧some k_≠(v800:Value).ownBlock∧some k_≠(v812:Value).ownBlock∧some k_≠(v815:Value).ownBlock∧k_≠gb780∧k_≠gb781) (.slice A1_3 l1_3.length c1_3) l1_3)∧zAO (w'.heap[gb780]?=some (.cells #[.string a0_0,(.slice A0_1 l0_1.length c0_1),.int .i64 a0_2,(.slice A0_3 l0_3.length c0_3)] 25 (0,0)))∧zAO (w'.heap[gb781]?=some (.cells #[.string a0_0,(.slice A0_1 l0_1.length c0_1),.int .i64 a0_2,(.slice A1_3 l1_3.length c1_3)] 25 (0,0)))∧zAO (Below w.heap.size w w'))
 case atStart=>exact ⟨(0),aS2_,H',⟨Nat.le_refl _⟩,⟨by refine aR_ ?_;exact Kd.R_mono HO_5.out (fun _ hk=>⟨hk.1.1,hk.2⟩)⟩,⟨by refine aN_ ?_;exact Kd.N_mono HO801.out (fun _ hk=>⟨hk.1.1.1,⟨hk.1.1.2.1,⟨hk.1.2,⟨hk.2,⟨hk.1.1.2.2.2.1,hk.1.1.2.2.2.2⟩⟩⟩⟩⟩)⟩,⟨by refine aR_ ?_;exact Kd.R_mono HO813.out (fun _ hk=>⟨hk.1,hk.2.1⟩)⟩,⟨by refine aN_ ?_;exact Kd.N_mono HO816.out (fun _ hk=>⟨hk.1,⟨hk.2.1,⟨hk.2.2.2.1,⟨hk.2.2.2.2.1,⟨hk.2.2.2.2.2.1,hk.2.2.2.2.2.2⟩⟩⟩⟩⟩)⟩,⟨by refine aV_ ?_;exact Kd.V_mono HO_781003.out (fun _ hk=>⟨hk.1.1.1,⟨hk.1.1.2.1,⟨hk.1.1.2.2.2.1,⟨hk.1.2,⟨hk.2,⟨hk.1.1.2.2.2.2.1,hk.1.1.2.2.2.2.2⟩⟩⟩⟩⟩⟩)⟩,⟨by refine aV_ ?_;exact Kd.V_mono HO_782003.out (fun _ hk=>⟨hk.1.1.1,⟨hk.1.1.2.1,⟨hk.1.1.2.2.2.1,⟨hk.1.2,⟨hk.2,⟨hk.1.1.2.2.2.2.1,hk.1.1.2.2.2.2.2⟩⟩⟩⟩⟩⟩)⟩,⟨aB_ BK780.out⟩,⟨aB_ BK781.out⟩,⟨aJ_ HB.out GE780.out GE781.out⟩⟩
 clear H'
 try clear c1
 try clear c2
 try clear p2
 try clear c3
 try clear c4
 try clear c6
 try clear p6
 try clear c11
 try clear c12
 try clear c23
 try clear c23b0
 try clear c23b1
 try clear c24
 try clear c24b0
 try clear c24b1
 try clear c25
 try clear c28
 try clear c29
 try clear c30
 try clear c31
 try clear c32
 try clear c33
 try clear c36
 try clear hcz12_0
 try clear hcz12_1
 try clear hcz12_2
 try clear hcz12_3
 try clear hcz13_0
 try clear hcz13_1
 try clear hcz13_2
 try clear hcz13_3
 try clear hcz15_0
 try clear hcz15_1
 try clear hcz15_2
 try clear hcz15_3
 try clear hcz16_0
 try clear hcz16_1
 try clear hcz16_2
 try clear hcz16_3
 try clear hcz18_0
 try clear hcz18_1
 try clear hcz18_2
 try clear hcz18_3
 try clear hcz19_0
 try clear hcz19_1
 try clear hcz19_2
 try clear hcz19_3
 try clear hcz21_0
 try clear hcz21_1
 try clear hcz21_2
 try clear hcz21_3
 try clear hcz26_0
 try clear hcz26_1
 try clear hcz26_2
 try clear hcz26_3
 try clear hcz27_0
 try clear hcz27_1
 try clear hcz27_2
 try clear hcz27_3
 try clear hcz37_0
 try clear hcz37_1
 try clear hcz37_2
 try clear hcz37_3
 try clear hcz39_0
 try clear hcz39_1
 try clear hcz39_2
 try clear hcz39_3
 try clear hfz12_0
 try clear hfz12_1
 try clear hfz12_2
 try clear hfz12_3
 try clear hfz13_0
 try clear hfz13_1
 try clear hfz13_2
 try clear hfz13_3
 try clear hfz15_0
 try clear hfz15_1
 try clear hfz15_2
 try clear hfz15_3
 try clear hfz16_0
 try clear hfz16_1
 try clear hfz16_2
 try clear hfz16_3
 try clear hfz18_0
 try clear hfz18_1
 try clear hfz18_2
 try clear hfz18_3
 try clear hfz19_0
 try clear hfz19_1
 try clear hfz19_2
 try clear hfz19_3
 try clear hfz21_0
 try clear hfz21_1
 try clear hfz21_2
 try clear hfz21_3
 try clear hfz26_0
 try clear hfz26_1
 try clear hfz26_2
 try clear hfz26_3
 try clear hfz27_0
 try clear hfz27_1
 try clear hfz27_2
 try clear hfz27_3
 try clear hfz37_0
 try clear hfz37_1
 try clear hfz37_2
 try clear hfz37_3
 try clear hfz39_0
 try clear hfz39_1
 try clear hfz39_2
 try clear hfz39_3
 try clear p2
 try clear p6
 obtain ⟨x14_2,rfl,HA,HK2,HO_5,HO_11,HO_12,HO_13,HO_781003,HO_782003,BK780,BK781,HB⟩:=hrel
 cases gk with
 |zero=>exact absurd HA.out (by simp [zAD.l0])
 |succ k2=>?_
 have H:=HA.out
 clear HA
 simp only [zAD.l0] at H
 by_cases c50:x14_2<(y814.length:Int)
 rotate_left
 ·rw [if_neg c50] at H
  have c50b0:decide (x14_2<(y814.length:Int))=false:=decide_eq_false c50
  clear c50
  obtain ⟨y818,hy818⟩:∃ y_:List (S33),y_=(([(⟨1,2,0,0,([]:List (S45)),0⟩:S33)]:List (S33))):=⟨_,rfl⟩
  replace H:(if y818.length+l0_3.length<2199023255552 then ((some (y818 ++ l0_3:List (S33))).bind fun y821=>(if y821.length<2199023255552 then ((zAG.f k2 a0_0 l0_1 a0_2 (y821 ++ [(⟨8,0,0,0,([]:List (S45)),0⟩:S33)])).bind fun bt827=>(if bt827.2.2=0 then (if (bt827.1.length:Int)=(wrap64 ((t783.length:Int)+2)) then (if 0<(bt827.1.length:Int) then (if (rd bt827.1 0)=0 then (if 0≤(wrap64 ((bt827.1.length:Int) - 1)) then (if (wrap64 ((bt827.1.length:Int) - 1))<(bt827.1.length:Int) then (some ((rd bt827.1 (wrap64 ((bt827.1.length:Int) - 1))) == 1)) else (none)) else (none)) else (some false)) else (none)) else (some false)) else (some false))) else (none))) else (none))=some r:=by first|(rw [hy818];with_reducible exact H)|(have H2_:=(Option.bind_some _ _).symm.trans H;rw [hy818];with_reducible exact H2_)|(have H2_:=(Option.bind_some _ _).symm.trans H;with_reducible exact H2_)|with_reducible exact H|(rw [hy818];exact H)|exact H
  have Ny818:=aK_ hy818
  clear hy818
  have c174:=yes_ H
  rw [if_pos c174] at H
  have LMc174:=aK_ c174
  clear c174
  obtain ⟨y821,hy821⟩:∃ y_:List (S33),y_=(y818 ++ l0_3):=⟨_,rfl⟩
  replace H:(if y821.length<2199023255552 then ((zAG.f k2 a0_0 l0_1 a0_2 (y821 ++ [(⟨8,0,0,0,([]:List (S45)),0⟩:S33)])).bind fun bt827=>(if bt827.2.2=0 then (if (bt827.1.length:Int)=(wrap64 ((t783.length:Int)+2)) then (if 0<(bt827.1.length:Int) then (if (rd bt827.1 0)=0 then (if 0≤(wrap64 ((bt827.1.length:Int) - 1)) then (if (wrap64 ((bt827.1.length:Int) - 1))<(bt827.1.length:Int) then (some ((rd bt827.1 (wrap64 ((bt827.1.length:Int) - 1))) == 1)) else (none)) else (none)) else (some false)) else (none)) else (some false)) else (some false))) else (none))=some r:=by first|(rw [hy821];with_reducible exact H)|(have H2_:=(Option.bind_some _ _).symm.trans H;rw [hy821];with_reducible exact H2_)|(have H2_:=(Option.bind_some _ _).symm.trans H;with_reducible exact H2_)|with_reducible exact H|(rw [hy821];exact H)|exact H
  have Ny821:=aK_ hy821
  clear hy821
  have c175:=yes_ H
  rw [if_pos c175] at H
  have LMc175:=aK_ c175
  clear c175
  obtain ⟨y824,hy824⟩:∃ y_:List (S33),y_=(y821 ++ [(⟨8,0,0,0,([]:List (S45)),0⟩:S33)]):=⟨_,rfl⟩
  replace H:((zAG.f k2 a0_0 l0_1 a0_2 y824).bind fun bt827=>(if bt827.2.2=0 then (if (bt827.1.length:Int)=(wrap64 ((t783.length:Int)+2)) then (if 0<(bt827.1.length:Int) then (if (rd bt827.1 0)=0 then (if 0≤(wrap64 ((bt827.1.length:Int) - 1)) then (if (wrap64 ((bt827.1.length:Int) - 1))<(bt827.1.length:Int) then (some ((rd bt827.1 (wrap64 ((bt827.1.length:Int) - 1))) == 1)) else (none)) else (none)) else (some false)) else (none)) else (some false)) else (some false)))=some r:=by first|(rw [hy824];with_reducible exact H)|(have H2_:=(Option.bind_some _ _).symm.trans H;rw [hy824];with_reducible exact H2_)|(have H2_:=(Option.bind_some _ _).symm.trans H;with_reducible exact H2_)|with_reducible exact H|(rw [hy824];exact H)|exact H
  have Ny824:=aK_ hy824
  clear hy824
  replace H:=Option.bind_eq_some_iff.mp H
  obtain ⟨⟨t827,t830,t831⟩,A1760,H⟩:=H
  replace H:(if t831=0 then (if (t827.length:Int)=(wrap64 ((t783.length:Int)+2)) then (if 0<(t827.length:Int) then (if (rd t827 0)=0 then (if 0≤(wrap64 ((t827.length:Int) - 1)) then (if (wrap64 ((t827.length:Int) - 1))<(t827.length:Int) then (some ((rd t827 (wrap64 ((t827.length:Int) - 1))) == 1)) else (none)) else (none)) else (some false)) else (none)) else (some false)) else (some false))=some r:=H
  have A176:=aK_ A1760
  clear A1760
  have HX_:=aK_ H
  clear H
  obtain ⟨Ao247,co247,eo247⟩:=Kd.N_slice HO_13.out
  subst eo247
  have hnb248:=NB780_781.out
  have hnc248:=NB781_780.out
  have hcz249_0:wr.cell? ⟨gb780,0,none⟩=some (.string a0_0):=(zAB BK780.out 0).trans rfl
  have hcz249_1:wr.cell? ⟨gb780,1,none⟩=some (.slice A0_1 l0_1.length c0_1):=(zAB BK780.out 1).trans rfl
  have hcz249_2:wr.cell? ⟨gb780,2,none⟩=some (.int .i64 a0_2):=(zAB BK780.out 2).trans rfl
  have hcz249_3:wr.cell? ⟨gb780,3,none⟩=some (.slice A0_3 l0_3.length c0_3):=(zAB BK780.out 3).trans rfl
  have hfz249_0:=zAA BK780.out 0
  have hfz249_1:=zAA BK780.out 1
  have hfz249_2:=zAA BK780.out 2
  have hfz249_3:=zAA BK780.out 3
  go_upto_region 32 with (first|((with_reducible refine zAQ (N:=19) rfl ?_);(try (refine zAU (by rfl) ?_;dsimp only));refine zAS ?hg (N:=19) ?hd (cs:=#[.string (⟨#[]⟩:ByteArray),.slice none 0 0,.int .i64 0,.slice none 0 0]) (t:=25) ?hr ?_;(case hd=>rfl);(case hg=>rfl);(case hr=>first|(go_simp;done)|(go_simp;rfl));intro gb817 hg w250 hbox hb;have n0_:=aK_ (Kd.R_below (aR_ HO_5.out) hb);have n1_:=aK_ (Kd.N_below (Kd.N_elderB (aN_ HO_11.out) gb817 (Nat.le_of_eq hg.symm)) hb);have n2_:=aK_ (Kd.R_below (aR_ HO_12.out) hb);have n3_:=aK_ (Kd.N_below (Kd.N_elderB (aN_ HO_13.out) gb817 (Nat.le_of_eq hg.symm)) hb);have n4_:=aK_ (Kd.V_below (Kd.V_elderB (aV_ HO_781003.out) gb817 (Nat.le_of_eq hg.symm)) hb);have n5_:=aK_ (Kd.V_below (Kd.V_elderB (aV_ HO_782003.out) gb817 (Nat.le_of_eq hg.symm)) hb);have n6_:=aK_ (zAN (g:=gb780) (o:=.cells #[.string a0_0,.slice A0_1 l0_1.length c0_1,.int .i64 a0_2,.slice A0_3 l0_3.length c0_3] 25 (0,0)) (aB_ BK780.out) hb);have n7_:=aK_ (zAN (g:=gb781) (o:=.cells #[.string a0_0,.slice A0_1 l0_1.length c0_1,.int .i64 a0_2,.slice A1_3 l1_3.length c1_3] 25 (0,0)) (aB_ BK781.out) hb);have n8_:=aK_ (zAH (aJ_ HB.out GE780.out GE781.out) hb);have n9_:=aK_ (hbox);have n10_:=aK_ ((by rw [hg];exact (zAE (aJ_ HB.out GE780.out GE781.out)):w.heap.size≤gb817));have n11_:=aK_ ((by rw [hg];exact (zAE (aJ_ HB.out GE780.out GE781.out)):w.heap.size≤gb817));have n12_:=aK_ ((by rw [hg];exact Nat.ne_of_lt (blk_lt (g:=gb780) (o:=.cells #[.string a0_0,.slice A0_1 l0_1.length c0_1,.int .i64 a0_2,.slice A0_3 l0_3.length c0_3] 25 (0,0)) (aB_ BK780.out)):gb780≠gb817));have n13_:=aK_ ((by rw [hg];exact Nat.ne_of_gt (blk_lt (g:=gb780) (o:=.cells #[.string a0_0,.slice A0_1 l0_1.length c0_1,.int .i64 a0_2,.slice A0_3 l0_3.length c0_3] 25 (0,0)) (aB_ BK780.out)):gb817≠gb780));have n14_:=aK_ ((by rw [hg];exact Nat.ne_of_lt (blk_lt (g:=gb781) (o:=.cells #[.string a0_0,.slice A0_1 l0_1.length c0_1,.int .i64 a0_2,.slice A1_3 l1_3.length c1_3] 25 (0,0)) (aB_ BK781.out)):gb781≠gb817));have n15_:=aK_ ((by rw [hg];exact Nat.ne_of_gt (blk_lt (g:=gb781) (o:=.cells #[.string a0_0,.slice A0_1 l0_1.length c0_1,.int .i64 a0_2,.slice A1_3 l1_3.length c1_3] 25 (0,0)) (aB_ BK781.out)):gb817≠gb781));clear HO_5;clear HO_11;clear HO_12;clear HO_13;clear HO_781003;clear HO_782003;clear BK780;clear BK781;clear HB;have HO_5:=n0_;have HO_11:=n1_;have HO_12:=n2_;have HO_13:=n3_;have HO_781003:=n4_;have HO_782003:=n5_;have BK780:=n6_;have BK781:=n7_;have HB:=n8_;have BK817:=n9_;have GW817:=n10_;have GE817:=n11_;have NB780_817:=n12_;have NB817_780:=n13_;have NB781_817:=n14_;have NB817_781:=n15_;clear n0_ n1_ n2_ n3_ n4_ n5_ n6_ n7_ n8_ n9_ n10_ n11_ n12_ n13_ n14_ n15_;clear hb hbox hg;have hnb251:=NB817_780.out;have hnc251:=NB780_817.out;have hnb252:=NB817_781.out;have hnc252:=NB781_817.out;have hcz253_0:w250.cell? ⟨gb817,0,none⟩=some (.string (⟨#[]⟩:ByteArray)):=(zAB BK817.out 0).trans rfl;have hcz253_1:w250.cell? ⟨gb817,1,none⟩=some (.slice none 0 0):=(zAB BK817.out 1).trans rfl;have hcz253_2:w250.cell? ⟨gb817,2,none⟩=some (.int .i64 0):=(zAB BK817.out 2).trans rfl;have hcz253_3:w250.cell? ⟨gb817,3,none⟩=some (.slice none 0 0):=(zAB BK817.out 3).trans rfl;have hfz253_0:=zAA BK817.out 0;have hfz253_1:=zAA BK817.out 1;have hfz253_2:=zAA BK817.out 2;have hfz253_3:=zAA BK817.out 3)|((with_reducible refine gate_store (t:=25) (p:=19) rfl ?_);refine store_event (t:=25) (p:=19) (v:=?vo_w254) (w1:=((((w250.setCell ⟨gb817,0,none⟩ (.string a0_0)).setCell ⟨gb817,1,none⟩ (.slice A0_1 l0_1.length c0_1)).setCell ⟨gb817,2,none⟩ (.int .i64 a0_2)).setCell ⟨gb817,3,none⟩ (.slice A0_3 l0_3.length c0_3))) ?hg ?ho ?hn ?hr ?_;(case ho=>rfl);(case hg=>rfl);(case hn=>rfl);(case hr=>first|(go_simp;done)|(go_simp;rfl));intro w254 hw;have n0_:zAO (Kd.R (Kd.int .i64) 3 w254 w.heap.size (fun k_=>(w.heap.size≤k_)∧some k_≠(v812:Value).ownBlock) (.slice Ao44 t783.length co44) t783):=⟨(by rw [hw];exact (by refine aR_ ?_;exact Kd.R_mono (Kd.R_far (p:=⟨gb817,3,none⟩) (Kd.R_far (p:=⟨gb817,2,none⟩) (Kd.R_far (p:=⟨gb817,1,none⟩) (Kd.R_far (p:=⟨gb817,0,none⟩) (Kd.R_types HO_5.out BK817.out (by decide)) (fun _ hk=>hk.2) (.string a0_0)) (fun _ hk=>hk.2) (.slice A0_1 l0_1.length c0_1)) (fun _ hk=>hk.2) (.int .i64 a0_2)) (fun _ hk=>hk.2) (.slice A0_3 l0_3.length c0_3)) (fun _ hk=>⟨hk.1.1,hk.1.2⟩)))⟩;have n1_:zAO (Kd.N k33 33 w254 w.heap.size (fun k_=>((P0_3_ k_∨P1_3_ k_)∨w.heap.size≤k_)∧some k_≠(.slice Ao44 t783.length co44:Value).ownBlock∧some k_≠(v812:Value).ownBlock∧some k_≠(.slice Ao247 y814.length co247:Value).ownBlock∧k_≠gb780∧k_≠gb781∧k_≠gb817) v800 y799):=⟨(by rw [hw];exact (by refine aN_ ?_;exact Kd.N_mono (Kd.N_far (p:=⟨gb817,3,none⟩) (Kd.N_far (p:=⟨gb817,2,none⟩) (Kd.N_far (p:=⟨gb817,1,none⟩) (Kd.N_far (p:=⟨gb817,0,none⟩) (Kd.N_mono HO_11.out (fun k_ hk=>(⟨hk,hk.2⟩:_∧k_≠gb817))) (fun _ hk=>hk.2) (.string a0_0)) (fun _ hk=>hk.2) (.slice A0_1 l0_1.length c0_1)) (fun _ hk=>hk.2) (.int .i64 a0_2)) (fun _ hk=>hk.2) (.slice A0_3 l0_3.length c0_3)) (fun _ hk=>⟨hk.1.1.1,⟨hk.1.1.2.1,⟨hk.1.1.2.2.1,⟨hk.1.1.2.2.2.1,⟨hk.1.1.2.2.2.2.1,⟨hk.1.1.2.2.2.2.2,hk.1.2⟩⟩⟩⟩⟩⟩)))⟩;have n2_:zAO (Kd.R (Kd.int .i64) 3 w254 w.heap.size (fun k_=>(w.heap.size≤k_)∧some k_≠(.slice Ao44 t783.length co44:Value).ownBlock) v812 y811):=⟨(by rw [hw];exact (by refine aR_ ?_;exact Kd.R_mono (Kd.R_far (p:=⟨gb817,3,none⟩) (Kd.R_far (p:=⟨gb817,2,none⟩) (Kd.R_far (p:=⟨gb817,1,none⟩) (Kd.R_far (p:=⟨gb817,0,none⟩) (Kd.R_types HO_12.out BK817.out (by decide)) (fun _ hk=>hk.2) (.string a0_0)) (fun _ hk=>hk.2) (.slice A0_1 l0_1.length c0_1)) (fun _ hk=>hk.2) (.int .i64 a0_2)) (fun _ hk=>hk.2) (.slice A0_3 l0_3.length c0_3)) (fun _ hk=>⟨hk.1.1,hk.1.2⟩)))⟩;have n3_:zAO (Kd.N k33 33 w254 w.heap.size (fun k_=>((P0_3_ k_∨P1_3_ k_)∨w.heap.size≤k_)∧some k_≠(.slice Ao44 t783.length co44:Value).ownBlock∧some k_≠(v800:Value).ownBlock∧some k_≠(v812:Value).ownBlock∧k_≠gb780∧k_≠gb781∧k_≠gb817) (.slice Ao247 y814.length co247) y814):=⟨(by rw [hw];exact (by refine aN_ ?_;exact Kd.N_mono (Kd.N_far (p:=⟨gb817,3,none⟩) (Kd.N_far (p:=⟨gb817,2,none⟩) (Kd.N_far (p:=⟨gb817,1,none⟩) (Kd.N_far (p:=⟨gb817,0,none⟩) (Kd.N_mono HO_13.out (fun k_ hk=>(⟨hk,hk.2⟩:_∧k_≠gb817))) (fun _ hk=>hk.2) (.string a0_0)) (fun _ hk=>hk.2) (.slice A0_1 l0_1.length c0_1)) (fun _ hk=>hk.2) (.int .i64 a0_2)) (fun _ hk=>hk.2) (.slice A0_3 l0_3.length c0_3)) (fun _ hk=>⟨hk.1.1.1,⟨hk.1.1.2.1,⟨hk.1.1.2.2.1,⟨hk.1.1.2.2.2.1,⟨hk.1.1.2.2.2.2.1,⟨hk.1.1.2.2.2.2.2,hk.1.2⟩⟩⟩⟩⟩⟩)))⟩;have n4_:zAO (Kd.V k33 33 w254 w.heap.size (fun k_=>((P0_3_ k_∨P1_3_ k_)∨w.heap.size≤k_)∧some k_≠(.slice Ao44 t783.length co44:Value).ownBlock∧some k_≠(v800:Value).ownBlock∧some k_≠(v812:Value).ownBlock∧some k_≠(.slice Ao247 y814.length co247:Value).ownBlock∧k_≠gb780∧k_≠gb781∧k_≠gb817) (.slice A0_3 l0_3.length c0_3) l0_3):=⟨(by rw [hw];exact (by refine aV_ ?_;exact Kd.V_mono (Kd.V_far (p:=⟨gb817,3,none⟩) (Kd.V_far (p:=⟨gb817,2,none⟩) (Kd.V_far (p:=⟨gb817,1,none⟩) (Kd.V_far (p:=⟨gb817,0,none⟩) (Kd.V_mono HO_781003.out (fun k_ hk=>(⟨hk,hk.2⟩:_∧k_≠gb817))) (fun _ hk=>hk.2) (.string a0_0)) (fun _ hk=>hk.2) (.slice A0_1 l0_1.length c0_1)) (fun _ hk=>hk.2) (.int .i64 a0_2)) (fun _ hk=>hk.2) (.slice A0_3 l0_3.length c0_3)) (fun _ hk=>⟨hk.1.1.1,⟨hk.1.1.2.1,⟨hk.1.1.2.2.1,⟨hk.1.1.2.2.2.1,⟨hk.1.1.2.2.2.2.1,⟨hk.1.1.2.2.2.2.2.1,⟨hk.1.1.2.2.2.2.2.2,hk.1.2⟩⟩⟩⟩⟩⟩⟩)))⟩;have n5_:zAO (Kd.V k33 33 w254 w.heap.size (fun k_=>((P0_3_ k_∨P1_3_ k_)∨w.heap.size≤k_)∧some k_≠(.slice Ao44 t783.length co44:Value).ownBlock∧some k_≠(v800:Value).ownBlock∧some k_≠(v812:Value).ownBlock∧some k_≠(.slice Ao247 y814.length co247:Value).ownBlock∧k_≠gb780∧k_≠gb781∧k_≠gb817) (.slice A1_3 l1_3.length c1_3) l1_3):=⟨(by rw [hw];exact (by refine aV_ ?_;exact Kd.V_mono (Kd.V_far (p:=⟨gb817,3,none⟩) (Kd.V_far (p:=⟨gb817,2,none⟩) (Kd.V_far (p:=⟨gb817,1,none⟩) (Kd.V_far (p:=⟨gb817,0,none⟩) (Kd.V_mono HO_782003.out (fun k_ hk=>(⟨hk,hk.2⟩:_∧k_≠gb817))) (fun _ hk=>hk.2) (.string a0_0)) (fun _ hk=>hk.2) (.slice A0_1 l0_1.length c0_1)) (fun _ hk=>hk.2) (.int .i64 a0_2)) (fun _ hk=>hk.2) (.slice A0_3 l0_3.length c0_3)) (fun _ hk=>⟨hk.1.1.1,⟨hk.1.1.2.1,⟨hk.1.1.2.2.1,⟨hk.1.1.2.2.2.1,⟨hk.1.1.2.2.2.2.1,⟨hk.1.1.2.2.2.2.2.1,⟨hk.1.1.2.2.2.2.2.2,hk.1.2⟩⟩⟩⟩⟩⟩⟩)))⟩;have n6_:zAO (w254.heap[gb780]?=some (.cells #[.string a0_0,.slice A0_1 l0_1.length c0_1,.int .i64 a0_2,.slice A0_3 l0_3.length c0_3] 25 (0,0))):=⟨(by rw [hw];exact (by refine aB_ ?_;refine blk_far ?_ NB780_817.out _;refine aB_ ?_;refine blk_far ?_ NB780_817.out _;refine aB_ ?_;refine blk_far ?_ NB780_817.out _;refine aB_ ?_;refine blk_far ?_ NB780_817.out _;refine aB_ ?_;exact BK780.out))⟩;have n7_:zAO (w254.heap[gb781]?=some (.cells #[.string a0_0,.slice A0_1 l0_1.length c0_1,.int .i64 a0_2,.slice A1_3 l1_3.length c1_3] 25 (0,0))):=⟨(by rw [hw];exact (by refine aB_ ?_;refine blk_far ?_ NB781_817.out _;refine aB_ ?_;refine blk_far ?_ NB781_817.out _;refine aB_ ?_;refine blk_far ?_ NB781_817.out _;refine aB_ ?_;refine blk_far ?_ NB781_817.out _;refine aB_ ?_;exact BK781.out))⟩;have n8_:zAO (w254.heap[gb817]?=some (.cells #[.string a0_0,.slice A0_1 l0_1.length c0_1,.int .i64 a0_2,.slice A0_3 l0_3.length c0_3] 25 (0,0))):=⟨(by rw [hw];exact (by refine aB_ ?_;refine blk_put (cs:=#[.string a0_0,.slice A0_1 l0_1.length c0_1,.int .i64 a0_2,.slice none 0 0]) ?_ 3 _ rfl;refine aB_ ?_;refine blk_put (cs:=#[.string a0_0,.slice A0_1 l0_1.length c0_1,.int .i64 0,.slice none 0 0]) ?_ 2 _ rfl;refine aB_ ?_;refine blk_put (cs:=#[.string a0_0,.slice none 0 0,.int .i64 0,.slice none 0 0]) ?_ 1 _ rfl;refine aB_ ?_;refine blk_put (cs:=#[.string (⟨#[]⟩:ByteArray),.slice none 0 0,.int .i64 0,.slice none 0 0]) ?_ 0 _ rfl;refine aB_ ?_;exact BK817.out))⟩;have n9_:zAO (Below w.heap.size w w254):=⟨(by rw [hw];exact (aQ_ HB.out GE780.out GE781.out GE817.out))⟩;clear hw;clear HO_5;clear HO_11;clear HO_12;clear HO_13;clear HO_781003;clear HO_782003;clear BK780;clear BK781;clear BK817;clear HB;have HO_5:=n0_;have HO_11:=n1_;have HO_12:=n2_;have HO_13:=n3_;have HO_781003:=n4_;have HO_782003:=n5_;have BK780:=n6_;have BK781:=n7_;have BK817:=n8_;have HB:=n9_;clear n0_ n1_ n2_ n3_ n4_ n5_ n6_ n7_ n8_ n9_)|((with_reducible refine zAQ (N:=145) rfl ?_);(try (refine zAU (by rfl) ?_;dsimp only));refine Kd.N_lit k33 _ 33 ?hg (N':=145) ?hd (xs:=([(⟨1,2,0,0,([]:List (S45)),0⟩:S33)]:List (S33))) (inner:=[.int .i64 1,.int .i64 2,.int .i64 0,.int .i64 0,.slice none 0 0,.int .i64 0]) (ok:=(fun k_=>((P0_3_ k_∨P1_3_ k_)∨w.heap.size≤k_)∧some k_≠(.slice Ao44 t783.length co44:Value).ownBlock∧some k_≠(v800:Value).ownBlock∧some k_≠(v812:Value).ownBlock∧some k_≠(.slice Ao247 y814.length co247:Value).ownBlock∧k_≠gb780∧k_≠gb781∧k_≠gb817)) (okp:=(fun k_=>((P0_3_ k_∨P1_3_ k_)∨w.heap.size≤k_)∧some k_≠(.slice Ao44 t783.length co44:Value).ownBlock∧some k_≠(v800:Value).ownBlock∧some k_≠(v812:Value).ownBlock∧some k_≠(.slice Ao247 y814.length co247:Value).ownBlock∧k_≠gb780∧k_≠gb781∧k_≠gb817)) ?hr ?hp (fun _ hk=>hk) ((show ∀ k_,w254.heap.size≤k_→(fun k_=>((P0_3_ k_∨P1_3_ k_)∨w.heap.size≤k_)∧some k_≠(.slice Ao44 t783.length co44:Value).ownBlock∧some k_≠(v800:Value).ownBlock∧some k_≠(v812:Value).ownBlock∧some k_≠(.slice Ao247 y814.length co247:Value).ownBlock∧k_≠gb780∧k_≠gb781∧k_≠gb817) k_ from fun k_ hk=>⟨(.inr (Nat.le_trans (zAE (aQ_ HB.out GE780.out GE781.out GE817.out)) hk)),Kd.fresh' (Kd.R_lt (aR_ HO_5.out)) k_ hk,Kd.fresh' (Kd.N_lt (aN_ HO_11.out)) k_ hk,Kd.fresh' (Kd.R_lt (aR_ HO_12.out)) k_ hk,Kd.fresh' (Kd.N_lt (aN_ HO_13.out)) k_ hk,Kd.freshB (g:=gb780) (o:=.cells #[.string a0_0,.slice A0_1 l0_1.length c0_1,.int .i64 a0_2,.slice A0_3 l0_3.length c0_3] 25 (0,0)) (aB_ BK780.out) k_ hk,Kd.freshB (g:=gb781) (o:=.cells #[.string a0_0,.slice A0_1 l0_1.length c0_1,.int .i64 a0_2,.slice A1_3 l1_3.length c1_3] 25 (0,0)) (aB_ BK781.out) k_ hk,Kd.freshB (g:=gb817) (o:=.cells #[.string a0_0,.slice A0_1 l0_1.length c0_1,.int .i64 a0_2,.slice A0_3 l0_3.length c0_3] 25 (0,0)) (aB_ BK817.out) k_ hk⟩) _ (Nat.le_refl _)) (Below.refl _ _) (Nat.le_refl _) (by simp) ?_;(case hd=>rfl);(case hg=>rfl);(case hr=>first|(go_simp;done)|(go_simp;rfl));(case hp=>exact (Reps.c6 (show Kd.FK k33 _ _ (⟨1,2,0,0,([]:List (S45)),0⟩:S33) [.int .i64 1,.int .i64 2,.int .i64 0,.int .i64 0,.slice none 0 0,.int .i64 0] from (k33_mkF _ _ (⟨1,2,0,0,([]:List (S45)),0⟩:S33) (Nat.le_refl _) (Kd.F_nil _ _ _))) (Reps.none _ _)));intro v819 w255 ho256 hb hg_ hnew_;clear hg_ hnew_;(first|rw [← Ny818.out] at ho256|(simp only [Int.reduceToNat] at ho256;rw [← Ny818.out] at ho256));have n0_:=aK_ (Kd.R_below (aR_ HO_5.out) hb);have n1_:=aK_ (Kd.N_elder' (aN_ HO_11.out) (Kd.N_base ho256) hb);have n2_:=aK_ (Kd.R_below (aR_ HO_12.out) hb);have n3_:=aK_ (Kd.N_elder' (aN_ HO_13.out) (Kd.N_base ho256) hb);have n4_:=aK_ (Kd.V_elder' (aV_ HO_781003.out) (Kd.N_base ho256) hb);have n5_:=aK_ (Kd.V_elder' (aV_ HO_782003.out) (Kd.N_base ho256) hb);have n6_:=aK_ (Kd.N_lower ho256 (zAE (aQ_ HB.out GE780.out GE781.out GE817.out)));have n7_:=aK_ (zAN (g:=gb780) (o:=.cells #[.string a0_0,.slice A0_1 l0_1.length c0_1,.int .i64 a0_2,.slice A0_3 l0_3.length c0_3] 25 (0,0)) (aB_ BK780.out) hb);have n8_:=aK_ (zAN (g:=gb781) (o:=.cells #[.string a0_0,.slice A0_1 l0_1.length c0_1,.int .i64 a0_2,.slice A1_3 l1_3.length c1_3] 25 (0,0)) (aB_ BK781.out) hb);have n9_:=aK_ (zAN (g:=gb817) (o:=.cells #[.string a0_0,.slice A0_1 l0_1.length c0_1,.int .i64 a0_2,.slice A0_3 l0_3.length c0_3] 25 (0,0)) (aB_ BK817.out) hb);have n10_:=aK_ (zAH (aQ_ HB.out GE780.out GE781.out GE817.out) hb);clear HO_5;clear HO_11;clear HO_12;clear HO_13;clear HO_781003;clear HO_782003;clear BK780;clear BK781;clear BK817;clear HB;have HO_5:=n0_;have HO_11:=n1_;have HO_12:=n2_;have HO_13:=n3_;have HO_781003:=n4_;have HO_782003:=n5_;have HO820:=n6_;have BK780:=n7_;have BK781:=n8_;have BK817:=n9_;have HB:=n10_;clear n0_ n1_ n2_ n3_ n4_ n5_ n6_ n7_ n8_ n9_ n10_;clear hb ho256;have hcz257_0:w255.cell? ⟨gb780,0,none⟩=some (.string a0_0):=(zAB BK780.out 0).trans rfl;have hcz257_1:w255.cell? ⟨gb780,1,none⟩=some (.slice A0_1 l0_1.length c0_1):=(zAB BK780.out 1).trans rfl;have hcz257_2:w255.cell? ⟨gb780,2,none⟩=some (.int .i64 a0_2):=(zAB BK780.out 2).trans rfl;have hcz257_3:w255.cell? ⟨gb780,3,none⟩=some (.slice A0_3 l0_3.length c0_3):=(zAB BK780.out 3).trans rfl;have hfz257_0:=zAA BK780.out 0;have hfz257_1:=zAA BK780.out 1;have hfz257_2:=zAA BK780.out 2;have hfz257_3:=zAA BK780.out 3)|((with_reducible refine gate_builtin (b:=.append) (xs:=#[.tmp 145,.tmp 147]) rfl ?_);(try (refine zAU (by rfl) ?_;dsimp only));at_builtin;refine Kd.N_append_rows k33 (w0:=w) w.heap.size rfl (.tmp 145) (.tmp 147) 23 33 (.agg #[(.int .i64 0),(.int .i64 0),(.int .i64 0),(.int .i64 0),(.slice none 0 0),(.int .i64 0)]) 64 rfl Tryd.underlying23 info33 rfl (by decide) (by omega) v819 y818 l0_3 _ _ _ (fun k_=>((P0_3_ k_∨P1_3_ k_)∨w.heap.size≤k_)∧some k_≠(.slice Ao44 t783.length co44:Value).ownBlock∧some k_≠(v800:Value).ownBlock∧some k_≠(v812:Value).ownBlock∧some k_≠(.slice Ao247 y814.length co247:Value).ownBlock∧k_≠gb780∧k_≠gb781∧k_≠gb817) (fun k_=>((fun k_=>((P0_3_ k_∨P1_3_ k_)∨w.heap.size≤k_)∧some k_≠(.slice Ao44 t783.length co44:Value).ownBlock∧some k_≠(v800:Value).ownBlock∧some k_≠(v812:Value).ownBlock∧some k_≠(.slice Ao247 y814.length co247:Value).ownBlock∧k_≠gb780∧k_≠gb781∧k_≠gb817)) k_∧some k_≠(v819:Value).ownBlock) rfl rfl ?aO ?aR (fun _ hk=>hk) ?aF ?aB ?aS ?aL ?_;(case aR=>exact (by skip;exact Kd.V_F (Kd.V_mono (ok':=(fun k_=>((fun k_=>((P0_3_ k_∨P1_3_ k_)∨w.heap.size≤k_)∧some k_≠(.slice Ao44 t783.length co44:Value).ownBlock∧some k_≠(v800:Value).ownBlock∧some k_≠(v812:Value).ownBlock∧some k_≠(.slice Ao247 y814.length co247:Value).ownBlock∧k_≠gb780∧k_≠gb781∧k_≠gb817)) k_∧some k_≠(v819:Value).ownBlock)) (HO_781003.out) (fun k_ hk=>⟨⟨hk.1.1,⟨hk.1.2.1,⟨hk.1.2.2.1,⟨hk.1.2.2.2.1,⟨hk.1.2.2.2.2.1,⟨hk.1.2.2.2.2.2.1,⟨hk.1.2.2.2.2.2.2.1,hk.1.2.2.2.2.2.2.2⟩⟩⟩⟩⟩⟩⟩,hk.2⟩))));(case aB=>exact (aQ_ HB.out GE780.out GE781.out GE817.out));(case aF=>exact (fun k_ hk=>⟨(.inr (Nat.le_trans (zAE (aQ_ HB.out GE780.out GE781.out GE817.out)) hk)),Kd.fresh' (Kd.R_lt (aR_ HO_5.out)) k_ hk,Kd.fresh' (Kd.N_lt (aN_ HO_11.out)) k_ hk,Kd.fresh' (Kd.R_lt (aR_ HO_12.out)) k_ hk,Kd.fresh' (Kd.N_lt (aN_ HO_13.out)) k_ hk,Kd.freshB (g:=gb780) (o:=.cells #[.string a0_0,.slice A0_1 l0_1.length c0_1,.int .i64 a0_2,.slice A0_3 l0_3.length c0_3] 25 (0,0)) (aB_ BK780.out) k_ hk,Kd.freshB (g:=gb781) (o:=.cells #[.string a0_0,.slice A0_1 l0_1.length c0_1,.int .i64 a0_2,.slice A1_3 l1_3.length c1_3] 25 (0,0)) (aB_ BK781.out) k_ hk,Kd.freshB (g:=gb817) (o:=.cells #[.string a0_0,.slice A0_1 l0_1.length c0_1,.int .i64 a0_2,.slice A0_3 l0_3.length c0_3] 25 (0,0)) (aB_ BK817.out) k_ hk⟩));(case aO=>exact (aN_ HO820.out));(case aS=>exact (zAE (aQ_ HB.out GE780.out GE781.out GE817.out)));(case aL=>have:=LMc174.out;omega);intro v822 w258 ho hb hg hat;rw [← Ny821.out] at ho;have n0_:=aK_ (Kd.R_over' (aR_ HO_5.out) (Kd.N_typed (aN_ HO820.out)) (by decide) hg);have n1_:=aK_ (Kd.N_afterv (ok:=(fun k_=>((P0_3_ k_∨P1_3_ k_)∨w.heap.size≤k_)∧some k_≠(.slice Ao44 t783.length co44:Value).ownBlock∧some k_≠(v812:Value).ownBlock∧some k_≠(.slice Ao247 y814.length co247:Value).ownBlock∧k_≠gb780∧k_≠gb781∧k_≠gb817)) (aN_ HO_11.out) hg hat);have n2_:=aK_ (Kd.R_over' (aR_ HO_12.out) (Kd.N_typed (aN_ HO820.out)) (by decide) hg);have n3_:=aK_ (Kd.N_afterv (ok:=(fun k_=>((P0_3_ k_∨P1_3_ k_)∨w.heap.size≤k_)∧some k_≠(.slice Ao44 t783.length co44:Value).ownBlock∧some k_≠(v800:Value).ownBlock∧some k_≠(v812:Value).ownBlock∧k_≠gb780∧k_≠gb781∧k_≠gb817)) (aN_ HO_13.out) hg hat);have n4_:=aK_ (Kd.V_afterv (ok:=(fun k_=>((P0_3_ k_∨P1_3_ k_)∨w.heap.size≤k_)∧some k_≠(.slice Ao44 t783.length co44:Value).ownBlock∧some k_≠(v800:Value).ownBlock∧some k_≠(v812:Value).ownBlock∧some k_≠(.slice Ao247 y814.length co247:Value).ownBlock∧k_≠gb780∧k_≠gb781∧k_≠gb817)) (aV_ HO_781003.out) hg hat);have n5_:=aK_ (Kd.V_afterv (ok:=(fun k_=>((P0_3_ k_∨P1_3_ k_)∨w.heap.size≤k_)∧some k_≠(.slice Ao44 t783.length co44:Value).ownBlock∧some k_≠(v800:Value).ownBlock∧some k_≠(v812:Value).ownBlock∧some k_≠(.slice Ao247 y814.length co247:Value).ownBlock∧k_≠gb780∧k_≠gb781∧k_≠gb817)) (aV_ HO_782003.out) hg hat);have n6_:=aK_ (blk_grown (g:=gb780) (o:=.cells #[.string a0_0,.slice A0_1 l0_1.length c0_1,.int .i64 a0_2,.slice A0_3 l0_3.length c0_3] 25 (0,0)) (aB_ BK780.out) hg (Kd.N_ne HO820.out BK780.out (by decide)));have n7_:=aK_ (blk_grown (g:=gb781) (o:=.cells #[.string a0_0,.slice A0_1 l0_1.length c0_1,.int .i64 a0_2,.slice A1_3 l1_3.length c1_3] 25 (0,0)) (aB_ BK781.out) hg (Kd.N_ne HO820.out BK781.out (by decide)));have n8_:=aK_ (blk_grown (g:=gb817) (o:=.cells #[.string a0_0,.slice A0_1 l0_1.length c0_1,.int .i64 a0_2,.slice A0_3 l0_3.length c0_3] 25 (0,0)) (aB_ BK817.out) hg (Kd.N_ne HO820.out BK817.out (by decide)));have n9_:=aK_ (hb);have n10_:=aK_ (ho);clear HO_5;clear HO_11;clear HO_12;clear HO_13;clear HO_781003;clear HO_782003;clear BK780;clear BK781;clear BK817;clear HB;clear HO820;have HO_5:=n0_;have HO_11:=n1_;have HO_12:=n2_;have HO_13:=n3_;have HO_781003:=n4_;have HO_782003:=n5_;have BK780:=n6_;have BK781:=n7_;have BK817:=n8_;have HB:=n9_;have HO823:=n10_;clear n0_ n1_ n2_ n3_ n4_ n5_ n6_ n7_ n8_ n9_ n10_;clear ho hb hg hat;obtain ⟨Ao259,co259,eo259⟩:=Kd.N_slice HO823.out;subst eo259;have hcz260_0:w258.cell? ⟨gb817,0,none⟩=some (.string a0_0):=(zAB BK817.out 0).trans rfl;have hcz260_1:w258.cell? ⟨gb817,1,none⟩=some (.slice A0_1 l0_1.length c0_1):=(zAB BK817.out 1).trans rfl;have hcz260_2:w258.cell? ⟨gb817,2,none⟩=some (.int .i64 a0_2):=(zAB BK817.out 2).trans rfl;have hcz260_3:w258.cell? ⟨gb817,3,none⟩=some (.slice A0_3 l0_3.length c0_3):=(zAB BK817.out 3).trans rfl;have hfz260_0:=zAA BK817.out 0;have hfz260_1:=zAA BK817.out 1;have hfz260_2:=zAA BK817.out 2;have hfz260_3:=zAA BK817.out 3)|((with_reducible refine gate_store (t:=23) (p:=149) rfl ?_);refine store_event (t:=23) (p:=149) (v:=?vo_w261) (w1:=(w258.setCell ⟨gb817,3,none⟩ (.slice Ao259 y821.length co259))) ?hg ?ho ?hn ?hr ?_;(case ho=>rfl);(case hg=>rfl);(case hn=>rfl);(case hr=>first|(go_simp;done)|(go_simp;rfl));intro w261 hw;have n0_:zAO (Kd.R (Kd.int .i64) 3 w261 w.heap.size (fun k_=>(w.heap.size≤k_)∧some k_≠(v812:Value).ownBlock) (.slice Ao44 t783.length co44) t783):=⟨(by rw [hw];exact (by refine aR_ ?_;exact Kd.R_mono (Kd.R_far (p:=⟨gb817,3,none⟩) (Kd.R_types HO_5.out BK817.out (by decide)) (fun _ hk=>hk.2) (.slice Ao259 y821.length co259)) (fun _ hk=>⟨hk.1.1,hk.1.2⟩)))⟩;have n1_:zAO (Kd.N k33 33 w261 w.heap.size (fun k_=>((P0_3_ k_∨P1_3_ k_)∨w.heap.size≤k_)∧some k_≠(.slice Ao44 t783.length co44:Value).ownBlock∧some k_≠(v812:Value).ownBlock∧some k_≠(.slice Ao247 y814.length co247:Value).ownBlock∧some k_≠(.slice Ao259 y821.length co259:Value).ownBlock∧k_≠gb780∧k_≠gb781∧k_≠gb817) v800 y799):=⟨(by rw [hw];exact (by refine aN_ ?_;exact Kd.N_mono (Kd.N_far (p:=⟨gb817,3,none⟩) (Kd.N_mono HO_11.out (fun k_ hk=>(⟨hk,hk.1.2.2.2.2.2.2⟩:_∧k_≠gb817))) (fun _ hk=>hk.2) (.slice Ao259 y821.length co259)) (fun _ hk=>⟨hk.1.1.1,⟨hk.1.1.2.1,⟨hk.1.1.2.2.1,⟨hk.1.1.2.2.2.1,⟨hk.1.2,⟨hk.1.1.2.2.2.2.1,⟨hk.1.1.2.2.2.2.2.1,hk.1.1.2.2.2.2.2.2⟩⟩⟩⟩⟩⟩⟩)))⟩;have n2_:zAO (Kd.R (Kd.int .i64) 3 w261 w.heap.size (fun k_=>(w.heap.size≤k_)∧some k_≠(.slice Ao44 t783.length co44:Value).ownBlock) v812 y811):=⟨(by rw [hw];exact (by refine aR_ ?_;exact Kd.R_mono (Kd.R_far (p:=⟨gb817,3,none⟩) (Kd.R_types HO_12.out BK817.out (by decide)) (fun _ hk=>hk.2) (.slice Ao259 y821.length co259)) (fun _ hk=>⟨hk.1.1,hk.1.2⟩)))⟩;have n3_:zAO (Kd.N k33 33 w261 w.heap.size (fun k_=>((P0_3_ k_∨P1_3_ k_)∨w.heap.size≤k_)∧some k_≠(.slice Ao44 t783.length co44:Value).ownBlock∧some k_≠(v800:Value).ownBlock∧some k_≠(v812:Value).ownBlock∧some k_≠(.slice Ao259 y821.length co259:Value).ownBlock∧k_≠gb780∧k_≠gb781∧k_≠gb817) (.slice Ao247 y814.length co247) y814):=⟨(by rw [hw];exact (by refine aN_ ?_;exact Kd.N_mono (Kd.N_far (p:=⟨gb817,3,none⟩) (Kd.N_mono HO_13.out (fun k_ hk=>(⟨hk,hk.1.2.2.2.2.2.2⟩:_∧k_≠gb817))) (fun _ hk=>hk.2) (.slice Ao259 y821.length co259)) (fun _ hk=>⟨hk.1.1.1,⟨hk.1.1.2.1,⟨hk.1.1.2.2.1,⟨hk.1.1.2.2.2.1,⟨hk.1.2,⟨hk.1.1.2.2.2.2.1,⟨hk.1.1.2.2.2.2.2.1,hk.1.1.2.2.2.2.2.2⟩⟩⟩⟩⟩⟩⟩)))⟩;have n4_:zAO (Kd.V k33 33 w261 w.heap.size (fun k_=>((P0_3_ k_∨P1_3_ k_)∨w.heap.size≤k_)∧some k_≠(.slice Ao44 t783.length co44:Value).ownBlock∧some k_≠(v800:Value).ownBlock∧some k_≠(v812:Value).ownBlock∧some k_≠(.slice Ao247 y814.length co247:Value).ownBlock∧some k_≠(.slice Ao259 y821.length co259:Value).ownBlock∧k_≠gb780∧k_≠gb781∧k_≠gb817) (.slice A0_3 l0_3.length c0_3) l0_3):=⟨(by rw [hw];exact (by refine aV_ ?_;exact Kd.V_mono (Kd.V_far (p:=⟨gb817,3,none⟩) (Kd.V_mono HO_781003.out (fun k_ hk=>(⟨hk,hk.1.2.2.2.2.2.2.2⟩:_∧k_≠gb817))) (fun _ hk=>hk.2) (.slice Ao259 y821.length co259)) (fun _ hk=>⟨hk.1.1.1,⟨hk.1.1.2.1,⟨hk.1.1.2.2.1,⟨hk.1.1.2.2.2.1,⟨hk.1.1.2.2.2.2.1,⟨hk.1.2,⟨hk.1.1.2.2.2.2.2.1,⟨hk.1.1.2.2.2.2.2.2.1,hk.1.1.2.2.2.2.2.2.2⟩⟩⟩⟩⟩⟩⟩⟩)))⟩;have n5_:zAO (Kd.V k33 33 w261 w.heap.size (fun k_=>((P0_3_ k_∨P1_3_ k_)∨w.heap.size≤k_)∧some k_≠(.slice Ao44 t783.length co44:Value).ownBlock∧some k_≠(v800:Value).ownBlock∧some k_≠(v812:Value).ownBlock∧some k_≠(.slice Ao247 y814.length co247:Value).ownBlock∧some k_≠(.slice Ao259 y821.length co259:Value).ownBlock∧k_≠gb780∧k_≠gb781∧k_≠gb817) (.slice A1_3 l1_3.length c1_3) l1_3):=⟨(by rw [hw];exact (by refine aV_ ?_;exact Kd.V_mono (Kd.V_far (p:=⟨gb817,3,none⟩) (Kd.V_mono HO_782003.out (fun k_ hk=>(⟨hk,hk.1.2.2.2.2.2.2.2⟩:_∧k_≠gb817))) (fun _ hk=>hk.2) (.slice Ao259 y821.length co259)) (fun _ hk=>⟨hk.1.1.1,⟨hk.1.1.2.1,⟨hk.1.1.2.2.1,⟨hk.1.1.2.2.2.1,⟨hk.1.1.2.2.2.2.1,⟨hk.1.2,⟨hk.1.1.2.2.2.2.2.1,⟨hk.1.1.2.2.2.2.2.2.1,hk.1.1.2.2.2.2.2.2.2⟩⟩⟩⟩⟩⟩⟩⟩)))⟩;have n6_:zAO (Kd.N k33 33 w261 w.heap.size (fun k_=>((P0_3_ k_∨P1_3_ k_)∨w.heap.size≤k_)∧some k_≠(.slice Ao44 t783.length co44:Value).ownBlock∧some k_≠(v800:Value).ownBlock∧some k_≠(v812:Value).ownBlock∧some k_≠(.slice Ao247 y814.length co247:Value).ownBlock∧k_≠gb780∧k_≠gb781∧k_≠gb817) (.slice Ao259 y821.length co259) y821):=⟨(by rw [hw];exact (by refine aN_ ?_;exact Kd.N_mono (Kd.N_far (p:=⟨gb817,3,none⟩) (Kd.N_mono HO823.out (fun k_ hk=>(⟨hk,hk.2.2.2.2.2.2.2⟩:_∧k_≠gb817))) (fun _ hk=>hk.2) (.slice Ao259 y821.length co259)) (fun _ hk=>⟨hk.1.1,⟨hk.1.2.1,⟨hk.1.2.2.1,⟨hk.1.2.2.2.1,⟨hk.1.2.2.2.2.1,⟨hk.1.2.2.2.2.2.1,⟨hk.1.2.2.2.2.2.2.1,hk.1.2.2.2.2.2.2.2⟩⟩⟩⟩⟩⟩⟩)))⟩;have n7_:zAO (w261.heap[gb780]?=some (.cells #[.string a0_0,.slice A0_1 l0_1.length c0_1,.int .i64 a0_2,.slice A0_3 l0_3.length c0_3] 25 (0,0))):=⟨(by rw [hw];exact (by refine aB_ ?_;refine blk_far ?_ NB780_817.out _;refine aB_ ?_;exact BK780.out))⟩;have n8_:zAO (w261.heap[gb781]?=some (.cells #[.string a0_0,.slice A0_1 l0_1.length c0_1,.int .i64 a0_2,.slice A1_3 l1_3.length c1_3] 25 (0,0))):=⟨(by rw [hw];exact (by refine aB_ ?_;refine blk_far ?_ NB781_817.out _;refine aB_ ?_;exact BK781.out))⟩;have n9_:zAO (w261.heap[gb817]?=some (.cells #[.string a0_0,.slice A0_1 l0_1.length c0_1,.int .i64 a0_2,.slice Ao259 y821.length co259] 25 (0,0))):=⟨(by rw [hw];exact (by refine aB_ ?_;refine blk_put (cs:=#[.string a0_0,.slice A0_1 l0_1.length c0_1,.int .i64 a0_2,.slice A0_3 l0_3.length c0_3]) ?_ 3 _ rfl;refine aB_ ?_;exact BK817.out))⟩;have n10_:zAO (Below w.heap.size w w261):=⟨(by rw [hw];exact (aQ_ HB.out GE780.out GE781.out GE817.out))⟩;clear hw;clear HO_5;clear HO_11;clear HO_12;clear HO_13;clear HO_781003;clear HO_782003;clear HO823;clear BK780;clear BK781;clear BK817;clear HB;have HO_5:=n0_;have HO_11:=n1_;have HO_12:=n2_;have HO_13:=n3_;have HO_781003:=n4_;have HO_782003:=n5_;have HO823:=n6_;have BK780:=n7_;have BK781:=n8_;have BK817:=n9_;have HB:=n10_;clear n0_ n1_ n2_ n3_ n4_ n5_ n6_ n7_ n8_ n9_ n10_;have hcz262_0:w261.cell? ⟨gb817,0,none⟩=some (.string a0_0):=(zAB BK817.out 0).trans rfl;have hcz262_1:w261.cell? ⟨gb817,1,none⟩=some (.slice A0_1 l0_1.length c0_1):=(zAB BK817.out 1).trans rfl;have hcz262_2:w261.cell? ⟨gb817,2,none⟩=some (.int .i64 a0_2):=(zAB BK817.out 2).trans rfl;have hcz262_3:w261.cell? ⟨gb817,3,none⟩=some (.slice Ao259 y821.length co259):=(zAB BK817.out 3).trans rfl;have hfz262_0:=zAA BK817.out 0;have hfz262_1:=zAA BK817.out 1;have hfz262_2:=zAA BK817.out 2;have hfz262_3:=zAA BK817.out 3)|((with_reducible refine gate_builtin (b:=.append) (xs:=#[.tmp 151,.tmp 153]) rfl ?_);(try (refine zAU (by rfl) ?_;dsimp only));at_builtin;refine Kd.N_append k33 (w0:=w) w.heap.size rfl (.tmp 151) (.tmp 153) 23 33 (.agg #[(.int .i64 0),(.int .i64 0),(.int .i64 0),(.int .i64 0),(.slice none 0 0),(.int .i64 0)]) 64 rfl Tryd.underlying23 info33 rfl (by decide) (by omega) (.slice Ao259 y821.length co259) y821 (⟨8,0,0,0,([]:List (S45)),0⟩:S33) [.int .i64 8,.int .i64 0,.int .i64 0,.int .i64 0,.slice none 0 0,.int .i64 0] (fun k_=>((P0_3_ k_∨P1_3_ k_)∨w.heap.size≤k_)∧some k_≠(.slice Ao44 t783.length co44:Value).ownBlock∧some k_≠(v800:Value).ownBlock∧some k_≠(v812:Value).ownBlock∧some k_≠(.slice Ao247 y814.length co247:Value).ownBlock∧k_≠gb780∧k_≠gb781∧k_≠gb817) (fun k_=>((fun k_=>((P0_3_ k_∨P1_3_ k_)∨w.heap.size≤k_)∧some k_≠(.slice Ao44 t783.length co44:Value).ownBlock∧some k_≠(v800:Value).ownBlock∧some k_≠(v812:Value).ownBlock∧some k_≠(.slice Ao247 y814.length co247:Value).ownBlock∧k_≠gb780∧k_≠gb781∧k_≠gb817)) k_∧some k_≠(.slice Ao259 y821.length co259:Value).ownBlock) rfl rfl ?aP (fun _ hk=>hk) ?aF ?aO ?aB ?aS ?aL ?_;(case aP=>exact (k33_mkF _ _ (⟨8,0,0,0,([]:List (S45)),0⟩:S33) (Nat.le_refl _) (Kd.F_nil _ _ _)));(case aB=>exact (aQ_ HB.out GE780.out GE781.out GE817.out));(case aF=>exact (fun k_ hk=>⟨(.inr (Nat.le_trans (zAE (aQ_ HB.out GE780.out GE781.out GE817.out)) hk)),Kd.fresh' (Kd.R_lt (aR_ HO_5.out)) k_ hk,Kd.fresh' (Kd.N_lt (aN_ HO_11.out)) k_ hk,Kd.fresh' (Kd.R_lt (aR_ HO_12.out)) k_ hk,Kd.fresh' (Kd.N_lt (aN_ HO_13.out)) k_ hk,Kd.freshB (g:=gb780) (o:=.cells #[.string a0_0,.slice A0_1 l0_1.length c0_1,.int .i64 a0_2,.slice A0_3 l0_3.length c0_3] 25 (0,0)) (aB_ BK780.out) k_ hk,Kd.freshB (g:=gb781) (o:=.cells #[.string a0_0,.slice A0_1 l0_1.length c0_1,.int .i64 a0_2,.slice A1_3 l1_3.length c1_3] 25 (0,0)) (aB_ BK781.out) k_ hk,Kd.freshB (g:=gb817) (o:=.cells #[.string a0_0,.slice A0_1 l0_1.length c0_1,.int .i64 a0_2,.slice Ao259 y821.length co259] 25 (0,0)) (aB_ BK817.out) k_ hk⟩));(case aO=>exact (aN_ HO823.out));(case aS=>exact (zAE (aQ_ HB.out GE780.out GE781.out GE817.out)));(case aL=>have:=LMc175.out;omega);intro v825 w263 ho hb hg hat;rw [← Ny824.out] at ho;have n0_:=aK_ (Kd.R_over' (aR_ HO_5.out) (Kd.N_typed (aN_ HO823.out)) (by decide) hg);have n1_:=aK_ (Kd.N_afterv (ok:=(fun k_=>((P0_3_ k_∨P1_3_ k_)∨w.heap.size≤k_)∧some k_≠(.slice Ao44 t783.length co44:Value).ownBlock∧some k_≠(v812:Value).ownBlock∧some k_≠(.slice Ao247 y814.length co247:Value).ownBlock∧k_≠gb780∧k_≠gb781∧k_≠gb817)) (by refine aN_ ?_;exact Kd.N_mono HO_11.out (fun _ hk=>⟨⟨hk.1,⟨hk.2.1,⟨hk.2.2.1,⟨hk.2.2.2.1,⟨hk.2.2.2.2.2.1,⟨hk.2.2.2.2.2.2.1,hk.2.2.2.2.2.2.2⟩⟩⟩⟩⟩⟩,hk.2.2.2.2.1⟩)) hg hat);have n2_:=aK_ (Kd.R_over' (aR_ HO_12.out) (Kd.N_typed (aN_ HO823.out)) (by decide) hg);have n3_:=aK_ (Kd.N_afterv (ok:=(fun k_=>((P0_3_ k_∨P1_3_ k_)∨w.heap.size≤k_)∧some k_≠(.slice Ao44 t783.length co44:Value).ownBlock∧some k_≠(v800:Value).ownBlock∧some k_≠(v812:Value).ownBlock∧k_≠gb780∧k_≠gb781∧k_≠gb817)) (by refine aN_ ?_;exact Kd.N_mono HO_13.out (fun _ hk=>⟨⟨hk.1,⟨hk.2.1,⟨hk.2.2.1,⟨hk.2.2.2.1,⟨hk.2.2.2.2.2.1,⟨hk.2.2.2.2.2.2.1,hk.2.2.2.2.2.2.2⟩⟩⟩⟩⟩⟩,hk.2.2.2.2.1⟩)) hg hat);have n4_:=aK_ (Kd.V_afterv (ok:=(fun k_=>((P0_3_ k_∨P1_3_ k_)∨w.heap.size≤k_)∧some k_≠(.slice Ao44 t783.length co44:Value).ownBlock∧some k_≠(v800:Value).ownBlock∧some k_≠(v812:Value).ownBlock∧some k_≠(.slice Ao247 y814.length co247:Value).ownBlock∧k_≠gb780∧k_≠gb781∧k_≠gb817)) (by refine aV_ ?_;exact Kd.V_mono HO_781003.out (fun _ hk=>⟨⟨hk.1,⟨hk.2.1,⟨hk.2.2.1,⟨hk.2.2.2.1,⟨hk.2.2.2.2.1,⟨hk.2.2.2.2.2.2.1,⟨hk.2.2.2.2.2.2.2.1,hk.2.2.2.2.2.2.2.2⟩⟩⟩⟩⟩⟩⟩,hk.2.2.2.2.2.1⟩)) hg hat);have n5_:=aK_ (Kd.V_afterv (ok:=(fun k_=>((P0_3_ k_∨P1_3_ k_)∨w.heap.size≤k_)∧some k_≠(.slice Ao44 t783.length co44:Value).ownBlock∧some k_≠(v800:Value).ownBlock∧some k_≠(v812:Value).ownBlock∧some k_≠(.slice Ao247 y814.length co247:Value).ownBlock∧k_≠gb780∧k_≠gb781∧k_≠gb817)) (by refine aV_ ?_;exact Kd.V_mono HO_782003.out (fun _ hk=>⟨⟨hk.1,⟨hk.2.1,⟨hk.2.2.1,⟨hk.2.2.2.1,⟨hk.2.2.2.2.1,⟨hk.2.2.2.2.2.2.1,⟨hk.2.2.2.2.2.2.2.1,hk.2.2.2.2.2.2.2.2⟩⟩⟩⟩⟩⟩⟩,hk.2.2.2.2.2.1⟩)) hg hat);have n6_:=aK_ (blk_grown (g:=gb780) (o:=.cells #[.string a0_0,.slice A0_1 l0_1.length c0_1,.int .i64 a0_2,.slice A0_3 l0_3.length c0_3] 25 (0,0)) (aB_ BK780.out) hg (Kd.N_ne HO823.out BK780.out (by decide)));have n7_:=aK_ (blk_grown (g:=gb781) (o:=.cells #[.string a0_0,.slice A0_1 l0_1.length c0_1,.int .i64 a0_2,.slice A1_3 l1_3.length c1_3] 25 (0,0)) (aB_ BK781.out) hg (Kd.N_ne HO823.out BK781.out (by decide)));have n8_:=aK_ (blk_grown (g:=gb817) (o:=.cells #[.string a0_0,.slice A0_1 l0_1.length c0_1,.int .i64 a0_2,.slice Ao259 y821.length co259] 25 (0,0)) (aB_ BK817.out) hg (Kd.N_ne HO823.out BK817.out (by decide)));have n9_:=aK_ (hb);have n10_:=aK_ (ho);clear HO_5;clear HO_11;clear HO_12;clear HO_13;clear HO_781003;clear HO_782003;clear BK780;clear BK781;clear BK817;clear HB;clear HO823;have HO_5:=n0_;have HO_11:=n1_;have HO_12:=n2_;have HO_13:=n3_;have HO_781003:=n4_;have HO_782003:=n5_;have BK780:=n6_;have BK781:=n7_;have BK817:=n8_;have HB:=n9_;have HO826:=n10_;clear n0_ n1_ n2_ n3_ n4_ n5_ n6_ n7_ n8_ n9_ n10_;clear ho hb hg hat;obtain ⟨Ao264,co264,eo264⟩:=Kd.N_slice HO826.out;subst eo264;have hcz265_0:w263.cell? ⟨gb817,0,none⟩=some (.string a0_0):=(zAB BK817.out 0).trans rfl;have hcz265_1:w263.cell? ⟨gb817,1,none⟩=some (.slice A0_1 l0_1.length c0_1):=(zAB BK817.out 1).trans rfl;have hcz265_2:w263.cell? ⟨gb817,2,none⟩=some (.int .i64 a0_2):=(zAB BK817.out 2).trans rfl;have hcz265_3:w263.cell? ⟨gb817,3,none⟩=some (.slice Ao259 y821.length co259):=(zAB BK817.out 3).trans rfl;have hfz265_0:=zAA BK817.out 0;have hfz265_1:=zAA BK817.out 1;have hfz265_2:=zAA BK817.out 2;have hfz265_3:=zAA BK817.out 3)|((with_reducible refine gate_callee (f:=33) rfl ?_);refine goesL_ (some 158) rfl rfl Tryd.func33 (by kernel_rfl) rfl #[.agg #[.string a0_0,.slice A0_1 l0_1.length c0_1,.int .i64 a0_2,.slice Ao264 y824.length co264]] rfl aM_ ?_;(with_reducible refine (zAG.calls k2 a0_0 _ _ l0_1 a0_2 _ _ y824 t827 t830 t831 _ ?side1 ?side2 ?side3 ?side4 ?side5 A176.out).mono ?_);(case side1=>(first|(with_reducible exact hG)|((repeat (with_reducible first|exact hG|apply GW.drewN|apply GW.drew|apply GW.alloc));done)|exact GW.below hG (aQ_ HB.out GE780.out GE781.out GE817.out)));(case side2=>exact Kd.C_below HR0_1.out (aQ_ HB.out GE780.out GE781.out GE817.out));(case side3=>exact HC0_1.out);(case side4=>refine (Kd.N_reads' (e:=33) (base:=w.heap.size) (ok:=fun k_=>(((P0_3_ k_∨P1_3_ k_)∨w.heap.size≤k_)∧(some k_≠(.slice Ao44 t783.length co44:Value).ownBlock∧(some k_≠(v800:Value).ownBlock∧(some k_≠(v812:Value).ownBlock∧(some k_≠(.slice Ao247 y814.length co247:Value).ownBlock∧(k_≠gb780∧(k_≠gb781∧k_≠gb817)))))))) (n:=y824.length) (c:=co264) ?_).2.2;exact (by refine aN_ ?_;exact (Kd.N_mono (Kd.N_far (p:=⟨gb817,3,none⟩) (Kd.N_mono HO826.out (fun k_ hk=>(⟨hk,hk.2.2.2.2.2.2.2⟩:_∧k_≠gb817))) (fun _ hk=>hk.2) (.slice Ao264 y824.length co264)) (fun _ h_=>h_.1))));(case side5=>exact (Kd.N_reads' HO826.out).2.1);rintro e w266 ⟨v828,rfl,ho0,hb⟩;refine ⟨_,rfl,?_⟩;have n0_:=aK_ (Kd.R_elder' (by refine aR_ ?_;exact (Kd.R_mono (Kd.R_far (p:=⟨gb817,3,none⟩) (Kd.R_types HO_5.out BK817.out (by decide)) (fun _ hk=>hk.2) (.slice Ao264 y824.length co264)) (fun _ h_=>h_.1))) (Kd.R_base ho0) hb);have n1_:=aK_ (Kd.N_elder' (by refine aN_ ?_;exact (Kd.N_mono (Kd.N_far (p:=⟨gb817,3,none⟩) (Kd.N_mono HO_11.out (fun k_ hk=>(⟨hk,hk.1.2.2.2.2.2.2⟩:_∧k_≠gb817))) (fun _ hk=>hk.2) (.slice Ao264 y824.length co264)) (fun _ h_=>h_.1))) (Kd.R_base ho0) hb);have n2_:=aK_ (Kd.R_elder' (by refine aR_ ?_;exact (Kd.R_mono (Kd.R_far (p:=⟨gb817,3,none⟩) (Kd.R_types HO_12.out BK817.out (by decide)) (fun _ hk=>hk.2) (.slice Ao264 y824.length co264)) (fun _ h_=>h_.1))) (Kd.R_base ho0) hb);have n3_:=aK_ (Kd.N_elder' (by refine aN_ ?_;exact (Kd.N_mono (Kd.N_far (p:=⟨gb817,3,none⟩) (Kd.N_mono HO_13.out (fun k_ hk=>(⟨hk,hk.1.2.2.2.2.2.2⟩:_∧k_≠gb817))) (fun _ hk=>hk.2) (.slice Ao264 y824.length co264)) (fun _ h_=>h_.1))) (Kd.R_base ho0) hb);have n4_:=aK_ (Kd.V_elder' (by refine aV_ ?_;exact (Kd.V_mono (Kd.V_far (p:=⟨gb817,3,none⟩) (Kd.V_mono HO_781003.out (fun k_ hk=>(⟨hk,hk.1.2.2.2.2.2.2.2⟩:_∧k_≠gb817))) (fun _ hk=>hk.2) (.slice Ao264 y824.length co264)) (fun _ h_=>h_.1))) (Kd.R_base ho0) hb);have n5_:=aK_ (Kd.V_elder' (by refine aV_ ?_;exact (Kd.V_mono (Kd.V_far (p:=⟨gb817,3,none⟩) (Kd.V_mono HO_782003.out (fun k_ hk=>(⟨hk,hk.1.2.2.2.2.2.2.2⟩:_∧k_≠gb817))) (fun _ hk=>hk.2) (.slice Ao264 y824.length co264)) (fun _ h_=>h_.1))) (Kd.R_base ho0) hb);have n6_:=aK_ (Kd.N_elder' (by refine aN_ ?_;exact (Kd.N_mono (Kd.N_far (p:=⟨gb817,3,none⟩) (Kd.N_mono HO826.out (fun k_ hk=>(⟨hk,hk.2.2.2.2.2.2.2⟩:_∧k_≠gb817))) (fun _ hk=>hk.2) (.slice Ao264 y824.length co264)) (fun _ h_=>h_.1))) (Kd.R_base ho0) hb);have n7_:=aK_ (Kd.R_lower (Kd.R_new' (Kd.R_new' (Kd.R_newM (M:=fun k_=>(w.heap.size≤k_)) ho0 (zAE (aQ_ HB.out GE780.out GE781.out GE817.out)) (fun k_ h_=>h_)) (Kd.R_lt (by refine aR_ ?_;exact (Kd.R_mono (Kd.R_far (p:=⟨gb817,3,none⟩) (Kd.R_types HO_5.out BK817.out (by decide)) (fun _ hk=>hk.2) (.slice Ao264 y824.length co264)) (fun _ h_=>h_.1))))) (Kd.R_lt (by refine aR_ ?_;exact (Kd.R_mono (Kd.R_far (p:=⟨gb817,3,none⟩) (Kd.R_types HO_12.out BK817.out (by decide)) (fun _ hk=>hk.2) (.slice Ao264 y824.length co264)) (fun _ h_=>h_.1))))) (zAE (aQ_ HB.out GE780.out GE781.out GE817.out)));have n8_:=aK_ (zAN (g:=gb780) (o:=.cells #[.string a0_0,.slice A0_1 l0_1.length c0_1,.int .i64 a0_2,.slice A0_3 l0_3.length c0_3] 25 (0,0)) (by refine aB_ ?_;refine blk_far ?_ NB780_817.out _;refine aB_ ?_;exact BK780.out) hb);have n9_:=aK_ (zAN (g:=gb781) (o:=.cells #[.string a0_0,.slice A0_1 l0_1.length c0_1,.int .i64 a0_2,.slice A1_3 l1_3.length c1_3] 25 (0,0)) (by refine aB_ ?_;refine blk_far ?_ NB781_817.out _;refine aB_ ?_;exact BK781.out) hb);have n10_:=aK_ (zAN (g:=gb817) (o:=.cells #[.string a0_0,.slice A0_1 l0_1.length c0_1,.int .i64 a0_2,.slice Ao264 y824.length co264] 25 (0,0)) (by refine aB_ ?_;refine blk_put (cs:=#[.string a0_0,.slice A0_1 l0_1.length c0_1,.int .i64 a0_2,.slice Ao259 y821.length co259]) ?_ 3 _ rfl;refine aB_ ?_;exact BK817.out) hb);have n11_:=aK_ (zAH (aQ_ HB.out GE780.out GE781.out GE817.out) hb);clear HO_5;clear HO_11;clear HO_12;clear HO_13;clear HO_781003;clear HO_782003;clear HO826;clear BK780;clear BK781;clear BK817;clear HB;have HO_5:=n0_;have HO_11:=n1_;have HO_12:=n2_;have HO_13:=n3_;have HO_781003:=n4_;have HO_782003:=n5_;have HO826:=n6_;have HO829:=n7_;have BK780:=n8_;have BK781:=n9_;have BK817:=n10_;have HB:=n11_;clear n0_ n1_ n2_ n3_ n4_ n5_ n6_ n7_ n8_ n9_ n10_ n11_;(try clear hb);(try clear hb2);(try clear hk);(try clear hi);(try clear ho0)))
  have H:=HX_.out
  clear HX_
  by_cases c177:t831=0
  rotate_left
  ·rw [if_neg c177] at H
   have c177b0:(t831 == 0)=false:=beq_eq_false_iff_ne.mpr c177
   have c177b1:(t831 != 0)=true:=bne_iff_ne.mpr c177
   obtain rfl:=Option.some.inj H
   go_wp2
   go_ret
   exact ⟨by first|rfl|(simp [zAL,zAK] <;> rfl)|(simp [*,zAL,zAK] <;> rfl),aQ_ HB.out GE780.out GE781.out GE817.out⟩
  rw [if_pos c177] at H
  have c177b0:(t831 == 0)=true:=beq_iff_eq.mpr c177
  have c177b1:(t831 != 0)=false:=bne_eq_false_iff_eq.mpr c177
  clear c177
  by_cases c178:(t827.length:Int)=(wrap64 ((t783.length:Int)+2))
  rotate_left
  ·rw [if_neg c178] at H
   have c178b0:((t827.length:Int) == (wrap64 ((t783.length:Int)+2)))=false:=beq_eq_false_iff_ne.mpr c178
   have c178b1:((t827.length:Int) != (wrap64 ((t783.length:Int)+2)))=true:=bne_iff_ne.mpr c178
   obtain rfl:=Option.some.inj H
   obtain ⟨Ao246,co246,eo246⟩:=Kd.R_slice HO829.out
   subst eo246
   go_wp2
   go_ret
   exact ⟨by first|rfl|(simp [zAL,zAK] <;> rfl)|(simp [*,zAL,zAK] <;> rfl),aQ_ HB.out GE780.out GE781.out GE817.out⟩
  rw [if_pos c178] at H
  have c178b0:((t827.length:Int) == (wrap64 ((t783.length:Int)+2)))=true:=beq_iff_eq.mpr c178
  have c178b1:((t827.length:Int) != (wrap64 ((t783.length:Int)+2)))=false:=bne_eq_false_iff_eq.mpr c178
  clear c178
  have c179:=yes_ H
  rw [if_pos c179] at H
  have c179b0:decide (0<(t827.length:Int))=true:=decide_eq_true c179
  (try (have c179z0:=c179b0;simp only [hl841_4] at c179z0))
  (try (have c179z1:=c179b0;simp only [hl850_4] at c179z1))
  have c179b1:decide (0<t827.length)=true:=decide_eq_true (by omega)
  clear c179
  by_cases c180:(rd t827 0)=0
  rotate_left
  ·rw [if_neg c180] at H
   have c180b0:((rd t827 0) == 0)=false:=beq_eq_false_iff_ne.mpr c180
   have c180b1:((rd t827 0) != 0)=true:=bne_iff_ne.mpr c180
   obtain rfl:=Option.some.inj H
   obtain ⟨Ao225,co225,eo225⟩:=Kd.R_slice HO829.out
   subst eo225
   have p832:0≤(0:Int):=(by omega)
   have q832:0<(t827.length:Int):=aD_
   obtain ⟨ad832,e832,hx832_0⟩:=Kd.at_int (Kd.R_reads' HO829.out).2.2 0 p832 q832
   cases e832
   have qi832:(0<t827.length)=True:=eq_true (by omega)
   (try rw [show ((0:Int)).toNat=0 from rfl] at hx832_0)
   (try rw [Addr.add_zero'] at hx832_0)
   replace p832:=eq_true p832
   replace q832:=eq_true q832
   go_wp2
   go_ret
   exact ⟨by first|rfl|(simp [zAL,zAK] <;> rfl)|(simp [*,zAL,zAK] <;> rfl),aQ_ HB.out GE780.out GE781.out GE817.out⟩
  rw [if_pos c180] at H
  have c180b0:((rd t827 0) == 0)=true:=beq_iff_eq.mpr c180
  have c180b1:((rd t827 0) != 0)=false:=bne_eq_false_iff_eq.mpr c180
  clear c180
  obtain ⟨ji181,hji181⟩:∃ j_:Int,(wrap64 ((t827.length:Int) - 1))=j_:=⟨_,rfl⟩
  replace H:(if 0≤(ji181) then (if (ji181)<(t827.length:Int) then (some ((rd t827 (ji181)) == 1)) else (none)) else (none))=some r:=by first|(rw [hji181] at H;exact H)|(simp only [hji181] at H ⊢;exact H)
  (try rw [hji181] at A176)
  have hji181w:(IntKind.i64.wrap ((t827.length:Int) - 1))=ji181:=(i64_w _).trans hji181
  have c182:=yes_ H
  rw [if_pos c182] at H
  have c182b0:decide (0≤(ji181))=true:=decide_eq_true c182
  clear c182
  have c183:=yes_ H
  rw [if_pos c183] at H
  have c183b0:decide ((ji181)<(t827.length:Int))=true:=decide_eq_true c183
  (try (have c183z0:=c183b0;simp only [hl841_4] at c183z0))
  (try (have c183z1:=c183b0;simp only [hl850_4] at c183z1))
  clear c183
  obtain rfl:=Option.some.inj H
  obtain ⟨Ao204,co204,eo204⟩:=Kd.R_slice HO829.out
  subst eo204
  have p832:0≤(0:Int):=(by omega)
  have q832:0<(t827.length:Int):=aD_
  obtain ⟨ad832,e832,hx832_0⟩:=Kd.at_int (Kd.R_reads' HO829.out).2.2 0 p832 q832
  cases e832
  have qi832:(0<t827.length)=True:=eq_true (by omega)
  (try rw [show ((0:Int)).toNat=0 from rfl] at hx832_0)
  (try rw [Addr.add_zero'] at hx832_0)
  replace p832:=eq_true p832
  replace q832:=eq_true q832
  have p833:0≤((ji181):Int):=aD_
  have q833:(ji181)<(t827.length:Int):=aD_
  obtain ⟨ad833,e833,hx833_0⟩:=Kd.at_int (Kd.R_reads' HO829.out).2.2 (ji181) p833 q833
  obtain rfl:ad832=ad833:=(by injection e833)
  replace p833:=eq_true p833
  replace q833:=eq_true q833
  go_wp2
  go_ret
  exact ⟨by first|rfl|(simp [zAL,zAK] <;> rfl)|(simp only [← hji181];first|rfl|(simp [zAL,zAK] <;> rfl))|(simp [*,zAL,zAK] <;> rfl),aQ_ HB.out GE780.out GE781.out GE817.out⟩
 rw [if_pos c50] at H
 have c50b0:decide (x14_2<(y814.length:Int))=true:=decide_eq_true c50
 clear c50
 obtain ⟨y835,hy835⟩:∃ y_:List (S33),y_=(([]:List (S33))):=⟨_,rfl⟩
 replace H:(if y835.length+y799.length<2199023255552 then ((some (y835 ++ y799:List (S33))).bind fun y838=>(if 0≤x14_2 then (if y838.length<2199023255552 then ((zAG.f k2 a0_0 l0_1 a0_2 (y838 ++ [(⟨(zAC y814 x14_2).f0,(zAC y814 x14_2).f1,(zAC y814 x14_2).f2,(zAC y814 x14_2).f3,(zAC y814 x14_2).f4,(zAC y814 x14_2).f5⟩:S33)])).bind fun bt845=>(if ((zAC y814 x14_2).f0)=8 then (if bt845.2.2=80 then (if bt845.2.1=(y799.length:Int) then (zAD.j2 k2 t783 y799 y811 y814 x14_2 ((bt845.1.length:Int) != 0) a0_0 l0_1 a0_2 l0_3) else (zAD.j2 k2 t783 y799 y811 y814 x14_2 true a0_0 l0_1 a0_2 l0_3)) else (zAD.j2 k2 t783 y799 y811 y814 x14_2 true a0_0 l0_1 a0_2 l0_3)) else (if bt845.2.2=0 then (if bt845.2.1=0 then ((zAM.f k2 bt845.1 y811).bind fun t851=>(if t851=true then (zAD.l0 k2 t783 y799 y811 y814 (wrap64 (x14_2+1)) a0_0 l0_1 a0_2 l0_3) else (some false))) else (some false)) else (some false)))) else (none)) else (none))) else (none))=some r:=by first|(rw [hy835];with_reducible exact H)|(have H2_:=(Option.bind_some _ _).symm.trans H;rw [hy835];with_reducible exact H2_)|(have H2_:=(Option.bind_some _ _).symm.trans H;with_reducible exact H2_)|with_reducible exact H|(rw [hy835];exact H)|exact H
 have Ny835:=aK_ hy835
 clear hy835
 have c51:=yes_ H
 rw [if_pos c51] at H
 have LMc51:=aK_ c51
 clear c51
 obtain ⟨y838,hy838⟩:∃ y_:List (S33),y_=(y835 ++ y799):=⟨_,rfl⟩
 replace H:(if 0≤x14_2 then (if y838.length<2199023255552 then ((zAG.f k2 a0_0 l0_1 a0_2 (y838 ++ [(⟨(zAC y814 x14_2).f0,(zAC y814 x14_2).f1,(zAC y814 x14_2).f2,(zAC y814 x14_2).f3,(zAC y814 x14_2).f4,(zAC y814 x14_2).f5⟩:S33)])).bind fun bt845=>(if ((zAC y814 x14_2).f0)=8 then (if bt845.2.2=80 then (if bt845.2.1=(y799.length:Int) then (zAD.j2 k2 t783 y799 y811 y814 x14_2 ((bt845.1.length:Int) != 0) a0_0 l0_1 a0_2 l0_3) else (zAD.j2 k2 t783 y799 y811 y814 x14_2 true a0_0 l0_1 a0_2 l0_3)) else (zAD.j2 k2 t783 y799 y811 y814 x14_2 true a0_0 l0_1 a0_2 l0_3)) else (if bt845.2.2=0 then (if bt845.2.1=0 then ((zAM.f k2 bt845.1 y811).bind fun t851=>(if t851=true then (zAD.l0 k2 t783 y799 y811 y814 (wrap64 (x14_2+1)) a0_0 l0_1 a0_2 l0_3) else (some false))) else (some false)) else (some false)))) else (none)) else (none))=some r:=by first|(rw [hy838];with_reducible exact H)|(have H2_:=(Option.bind_some _ _).symm.trans H;rw [hy838];with_reducible exact H2_)|(have H2_:=(Option.bind_some _ _).symm.trans H;with_reducible exact H2_)|with_reducible exact H|(rw [hy838];exact H)|exact H
 have Ny838:=aK_ hy838
 clear hy838
 have c52:=yes_ H
 rw [if_pos c52] at H
 have c52b0:decide (0≤x14_2)=true:=decide_eq_true c52
 clear c52
 have c53:=yes_ H
 rw [if_pos c53] at H
 have LMc53:=aK_ c53
 clear c53
 obtain ⟨y842,hy842⟩:∃ y_:List (S33),y_=(y838 ++ [(⟨(zAC y814 x14_2).f0,(zAC y814 x14_2).f1,(zAC y814 x14_2).f2,(zAC y814 x14_2).f3,(zAC y814 x14_2).f4,(zAC y814 x14_2).f5⟩:S33)]):=⟨_,rfl⟩
 replace H:((zAG.f k2 a0_0 l0_1 a0_2 y842).bind fun bt845=>(if ((zAC y814 x14_2).f0)=8 then (if bt845.2.2=80 then (if bt845.2.1=(y799.length:Int) then (zAD.j2 k2 t783 y799 y811 y814 x14_2 ((bt845.1.length:Int) != 0) a0_0 l0_1 a0_2 l0_3) else (zAD.j2 k2 t783 y799 y811 y814 x14_2 true a0_0 l0_1 a0_2 l0_3)) else (zAD.j2 k2 t783 y799 y811 y814 x14_2 true a0_0 l0_1 a0_2 l0_3)) else (if bt845.2.2=0 then (if bt845.2.1=0 then ((zAM.f k2 bt845.1 y811).bind fun t851=>(if t851=true then (zAD.l0 k2 t783 y799 y811 y814 (wrap64 (x14_2+1)) a0_0 l0_1 a0_2 l0_3) else (some false))) else (some false)) else (some false))))=some r:=by first|(rw [hy842];with_reducible exact H)|(have H2_:=(Option.bind_some _ _).symm.trans H;rw [hy842];with_reducible exact H2_)|(have H2_:=(Option.bind_some _ _).symm.trans H;with_reducible exact H2_)|with_reducible exact H|(rw [hy842];exact H)|exact H
 have Ny842:=aK_ hy842
 clear hy842
 replace H:=Option.bind_eq_some_iff.mp H
 obtain ⟨⟨t845,t848,t849⟩,A540,H⟩:=H
 replace H:(if ((zAC y814 x14_2).f0)=8 then (if t849=80 then (if t848=(y799.length:Int) then (zAD.j2 k2 t783 y799 y811 y814 x14_2 ((t845.length:Int) != 0) a0_0 l0_1 a0_2 l0_3) else (zAD.j2 k2 t783 y799 y811 y814 x14_2 true a0_0 l0_1 a0_2 l0_3)) else (zAD.j2 k2 t783 y799 y811 y814 x14_2 true a0_0 l0_1 a0_2 l0_3)) else (if t849=0 then (if t848=0 then ((zAM.f k2 t845 y811).bind fun t851=>(if t851=true then (zAD.l0 k2 t783 y799 y811 y814 (wrap64 (x14_2+1)) a0_0 l0_1 a0_2 l0_3) else (some false))) else (some false)) else (some false)))=some r:=H
 have A54:=aK_ A540
 clear A540
 have HX_:=aK_ H
 clear H
 obtain ⟨Ao57,co57,eo57⟩:=Kd.N_slice HO_13.out
 subst eo57
 have hnb58:=NB780_781.out
 have hnc58:=NB781_780.out
 have hcz59_0:wr.cell? ⟨gb780,0,none⟩=some (.string a0_0):=(zAB BK780.out 0).trans rfl
 have hcz59_1:wr.cell? ⟨gb780,1,none⟩=some (.slice A0_1 l0_1.length c0_1):=(zAB BK780.out 1).trans rfl
 have hcz59_2:wr.cell? ⟨gb780,2,none⟩=some (.int .i64 a0_2):=(zAB BK780.out 2).trans rfl
 have hcz59_3:wr.cell? ⟨gb780,3,none⟩=some (.slice A0_3 l0_3.length c0_3):=(zAB BK780.out 3).trans rfl
 have hfz59_0:=zAA BK780.out 0
 have hfz59_1:=zAA BK780.out 1
 have hfz59_2:=zAA BK780.out 2
 have hfz59_3:=zAA BK780.out 3
 try go_wp2_with (first|((with_reducible refine zAQ (N:=15) rfl ?_);(try (refine zAU (by rfl) ?_;dsimp only));refine zAS ?hg (N:=15) ?hd (cs:=#[.string (⟨#[]⟩:ByteArray),.slice none 0 0,.int .i64 0,.slice none 0 0]) (t:=25) ?hr ?_;(case hd=>rfl);(case hg=>rfl);(case hr=>first|(go_simp;done)|(go_simp;rfl));intro gb834 hg w60 hbox hb;have n0_:=aK_ (Kd.R_below (aR_ HO_5.out) hb);have n1_:=aK_ (Kd.N_below (Kd.N_elderB (aN_ HO_11.out) gb834 (Nat.le_of_eq hg.symm)) hb);have n2_:=aK_ (Kd.R_below (aR_ HO_12.out) hb);have n3_:=aK_ (Kd.N_below (Kd.N_elderB (aN_ HO_13.out) gb834 (Nat.le_of_eq hg.symm)) hb);have n4_:=aK_ (Kd.V_below (Kd.V_elderB (aV_ HO_781003.out) gb834 (Nat.le_of_eq hg.symm)) hb);have n5_:=aK_ (Kd.V_below (Kd.V_elderB (aV_ HO_782003.out) gb834 (Nat.le_of_eq hg.symm)) hb);have n6_:=aK_ (zAN (g:=gb780) (o:=.cells #[.string a0_0,.slice A0_1 l0_1.length c0_1,.int .i64 a0_2,.slice A0_3 l0_3.length c0_3] 25 (0,0)) (aB_ BK780.out) hb);have n7_:=aK_ (zAN (g:=gb781) (o:=.cells #[.string a0_0,.slice A0_1 l0_1.length c0_1,.int .i64 a0_2,.slice A1_3 l1_3.length c1_3] 25 (0,0)) (aB_ BK781.out) hb);have n8_:=aK_ (zAH (aJ_ HB.out GE780.out GE781.out) hb);have n9_:=aK_ (hbox);have n10_:=aK_ ((by rw [hg];exact (zAE (aJ_ HB.out GE780.out GE781.out)):w.heap.size≤gb834));have n11_:=aK_ ((by rw [hg];exact (zAE (aJ_ HB.out GE780.out GE781.out)):w.heap.size≤gb834));have n12_:=aK_ ((by rw [hg];exact Nat.ne_of_lt (blk_lt (g:=gb780) (o:=.cells #[.string a0_0,.slice A0_1 l0_1.length c0_1,.int .i64 a0_2,.slice A0_3 l0_3.length c0_3] 25 (0,0)) (aB_ BK780.out)):gb780≠gb834));have n13_:=aK_ ((by rw [hg];exact Nat.ne_of_gt (blk_lt (g:=gb780) (o:=.cells #[.string a0_0,.slice A0_1 l0_1.length c0_1,.int .i64 a0_2,.slice A0_3 l0_3.length c0_3] 25 (0,0)) (aB_ BK780.out)):gb834≠gb780));have n14_:=aK_ ((by rw [hg];exact Nat.ne_of_lt (blk_lt (g:=gb781) (o:=.cells #[.string a0_0,.slice A0_1 l0_1.length c0_1,.int .i64 a0_2,.slice A1_3 l1_3.length c1_3] 25 (0,0)) (aB_ BK781.out)):gb781≠gb834));have n15_:=aK_ ((by rw [hg];exact Nat.ne_of_gt (blk_lt (g:=gb781) (o:=.cells #[.string a0_0,.slice A0_1 l0_1.length c0_1,.int .i64 a0_2,.slice A1_3 l1_3.length c1_3] 25 (0,0)) (aB_ BK781.out)):gb834≠gb781));clear HO_5;clear HO_11;clear HO_12;clear HO_13;clear HO_781003;clear HO_782003;clear BK780;clear BK781;clear HB;have HO_5:=n0_;have HO_11:=n1_;have HO_12:=n2_;have HO_13:=n3_;have HO_781003:=n4_;have HO_782003:=n5_;have BK780:=n6_;have BK781:=n7_;have HB:=n8_;have BK834:=n9_;have GW834:=n10_;have GE834:=n11_;have NB780_834:=n12_;have NB834_780:=n13_;have NB781_834:=n14_;have NB834_781:=n15_;clear n0_ n1_ n2_ n3_ n4_ n5_ n6_ n7_ n8_ n9_ n10_ n11_ n12_ n13_ n14_ n15_;clear hb hbox hg;have hnb61:=NB834_780.out;have hnc61:=NB780_834.out;have hnb62:=NB834_781.out;have hnc62:=NB781_834.out;have hcz63_0:w60.cell? ⟨gb834,0,none⟩=some (.string (⟨#[]⟩:ByteArray)):=(zAB BK834.out 0).trans rfl;have hcz63_1:w60.cell? ⟨gb834,1,none⟩=some (.slice none 0 0):=(zAB BK834.out 1).trans rfl;have hcz63_2:w60.cell? ⟨gb834,2,none⟩=some (.int .i64 0):=(zAB BK834.out 2).trans rfl;have hcz63_3:w60.cell? ⟨gb834,3,none⟩=some (.slice none 0 0):=(zAB BK834.out 3).trans rfl;have hfz63_0:=zAA BK834.out 0;have hfz63_1:=zAA BK834.out 1;have hfz63_2:=zAA BK834.out 2;have hfz63_3:=zAA BK834.out 3)|((with_reducible refine gate_store (t:=25) (p:=15) rfl ?_);refine store_event (t:=25) (p:=15) (v:=?vo_w64) (w1:=((((w60.setCell ⟨gb834,0,none⟩ (.string a0_0)).setCell ⟨gb834,1,none⟩ (.slice A0_1 l0_1.length c0_1)).setCell ⟨gb834,2,none⟩ (.int .i64 a0_2)).setCell ⟨gb834,3,none⟩ (.slice A0_3 l0_3.length c0_3))) ?hg ?ho ?hn ?hr ?_;(case ho=>rfl);(case hg=>rfl);(case hn=>rfl);(case hr=>first|(go_simp;done)|(go_simp;rfl));intro w64 hw;have n0_:zAO (Kd.R (Kd.int .i64) 3 w64 w.heap.size (fun k_=>(w.heap.size≤k_)∧some k_≠(v812:Value).ownBlock) (.slice Ao44 t783.length co44) t783):=⟨(by rw [hw];exact (by refine aR_ ?_;exact Kd.R_mono (Kd.R_far (p:=⟨gb834,3,none⟩) (Kd.R_far (p:=⟨gb834,2,none⟩) (Kd.R_far (p:=⟨gb834,1,none⟩) (Kd.R_far (p:=⟨gb834,0,none⟩) (Kd.R_types HO_5.out BK834.out (by decide)) (fun _ hk=>hk.2) (.string a0_0)) (fun _ hk=>hk.2) (.slice A0_1 l0_1.length c0_1)) (fun _ hk=>hk.2) (.int .i64 a0_2)) (fun _ hk=>hk.2) (.slice A0_3 l0_3.length c0_3)) (fun _ hk=>⟨hk.1.1,hk.1.2⟩)))⟩;have n1_:zAO (Kd.N k33 33 w64 w.heap.size (fun k_=>((P0_3_ k_∨P1_3_ k_)∨w.heap.size≤k_)∧some k_≠(.slice Ao44 t783.length co44:Value).ownBlock∧some k_≠(v812:Value).ownBlock∧some k_≠(.slice Ao57 y814.length co57:Value).ownBlock∧k_≠gb780∧k_≠gb781∧k_≠gb834) v800 y799):=⟨(by rw [hw];exact (by refine aN_ ?_;exact Kd.N_mono (Kd.N_far (p:=⟨gb834,3,none⟩) (Kd.N_far (p:=⟨gb834,2,none⟩) (Kd.N_far (p:=⟨gb834,1,none⟩) (Kd.N_far (p:=⟨gb834,0,none⟩) (Kd.N_mono HO_11.out (fun k_ hk=>(⟨hk,hk.2⟩:_∧k_≠gb834))) (fun _ hk=>hk.2) (.string a0_0)) (fun _ hk=>hk.2) (.slice A0_1 l0_1.length c0_1)) (fun _ hk=>hk.2) (.int .i64 a0_2)) (fun _ hk=>hk.2) (.slice A0_3 l0_3.length c0_3)) (fun _ hk=>⟨hk.1.1.1,⟨hk.1.1.2.1,⟨hk.1.1.2.2.1,⟨hk.1.1.2.2.2.1,⟨hk.1.1.2.2.2.2.1,⟨hk.1.1.2.2.2.2.2,hk.1.2⟩⟩⟩⟩⟩⟩)))⟩;have n2_:zAO (Kd.R (Kd.int .i64) 3 w64 w.heap.size (fun k_=>(w.heap.size≤k_)∧some k_≠(.slice Ao44 t783.length co44:Value).ownBlock) v812 y811):=⟨(by rw [hw];exact (by refine aR_ ?_;exact Kd.R_mono (Kd.R_far (p:=⟨gb834,3,none⟩) (Kd.R_far (p:=⟨gb834,2,none⟩) (Kd.R_far (p:=⟨gb834,1,none⟩) (Kd.R_far (p:=⟨gb834,0,none⟩) (Kd.R_types HO_12.out BK834.out (by decide)) (fun _ hk=>hk.2) (.string a0_0)) (fun _ hk=>hk.2) (.slice A0_1 l0_1.length c0_1)) (fun _ hk=>hk.2) (.int .i64 a0_2)) (fun _ hk=>hk.2) (.slice A0_3 l0_3.length c0_3)) (fun _ hk=>⟨hk.1.1,hk.1.2⟩)))⟩;have n3_:zAO (Kd.N k33 33 w64 w.heap.size (fun k_=>((P0_3_ k_∨P1_3_ k_)∨w.heap.size≤k_)∧some k_≠(.slice Ao44 t783.length co44:Value).ownBlock∧some k_≠(v800:Value).ownBlock∧some k_≠(v812:Value).ownBlock∧k_≠gb780∧k_≠gb781∧k_≠gb834) (.slice Ao57 y814.length co57) y814):=⟨(by rw [hw];exact (by refine aN_ ?_;exact Kd.N_mono (Kd.N_far (p:=⟨gb834,3,none⟩) (Kd.N_far (p:=⟨gb834,2,none⟩) (Kd.N_far (p:=⟨gb834,1,none⟩) (Kd.N_far (p:=⟨gb834,0,none⟩) (Kd.N_mono HO_13.out (fun k_ hk=>(⟨hk,hk.2⟩:_∧k_≠gb834))) (fun _ hk=>hk.2) (.string a0_0)) (fun _ hk=>hk.2) (.slice A0_1 l0_1.length c0_1)) (fun _ hk=>hk.2) (.int .i64 a0_2)) (fun _ hk=>hk.2) (.slice A0_3 l0_3.length c0_3)) (fun _ hk=>⟨hk.1.1.1,⟨hk.1.1.2.1,⟨hk.1.1.2.2.1,⟨hk.1.1.2.2.2.1,⟨hk.1.1.2.2.2.2.1,⟨hk.1.1.2.2.2.2.2,hk.1.2⟩⟩⟩⟩⟩⟩)))⟩;have n4_:zAO (Kd.V k33 33 w64 w.heap.size (fun k_=>((P0_3_ k_∨P1_3_ k_)∨w.heap.size≤k_)∧some k_≠(.slice Ao44 t783.length co44:Value).ownBlock∧some k_≠(v800:Value).ownBlock∧some k_≠(v812:Value).ownBlock∧some k_≠(.slice Ao57 y814.length co57:Value).ownBlock∧k_≠gb780∧k_≠gb781∧k_≠gb834) (.slice A0_3 l0_3.length c0_3) l0_3):=⟨(by rw [hw];exact (by refine aV_ ?_;exact Kd.V_mono (Kd.V_far (p:=⟨gb834,3,none⟩) (Kd.V_far (p:=⟨gb834,2,none⟩) (Kd.V_far (p:=⟨gb834,1,none⟩) (Kd.V_far (p:=⟨gb834,0,none⟩) (Kd.V_mono HO_781003.out (fun k_ hk=>(⟨hk,hk.2⟩:_∧k_≠gb834))) (fun _ hk=>hk.2) (.string a0_0)) (fun _ hk=>hk.2) (.slice A0_1 l0_1.length c0_1)) (fun _ hk=>hk.2) (.int .i64 a0_2)) (fun _ hk=>hk.2) (.slice A0_3 l0_3.length c0_3)) (fun _ hk=>⟨hk.1.1.1,⟨hk.1.1.2.1,⟨hk.1.1.2.2.1,⟨hk.1.1.2.2.2.1,⟨hk.1.1.2.2.2.2.1,⟨hk.1.1.2.2.2.2.2.1,⟨hk.1.1.2.2.2.2.2.2,hk.1.2⟩⟩⟩⟩⟩⟩⟩)))⟩;have n5_:zAO (Kd.V k33 33 w64 w.heap.size (fun k_=>((P0_3_ k_∨P1_3_ k_)∨w.heap.size≤k_)∧some k_≠(.slice Ao44 t783.length co44:Value).ownBlock∧some k_≠(v800:Value).ownBlock∧some k_≠(v812:Value).ownBlock∧some k_≠(.slice Ao57 y814.length co57:Value).ownBlock∧k_≠gb780∧k_≠gb781∧k_≠gb834) (.slice A1_3 l1_3.length c1_3) l1_3):=⟨(by rw [hw];exact (by refine aV_ ?_;exact Kd.V_mono (Kd.V_far (p:=⟨gb834,3,none⟩) (Kd.V_far (p:=⟨gb834,2,none⟩) (Kd.V_far (p:=⟨gb834,1,none⟩) (Kd.V_far (p:=⟨gb834,0,none⟩) (Kd.V_mono HO_782003.out (fun k_ hk=>(⟨hk,hk.2⟩:_∧k_≠gb834))) (fun _ hk=>hk.2) (.string a0_0)) (fun _ hk=>hk.2) (.slice A0_1 l0_1.length c0_1)) (fun _ hk=>hk.2) (.int .i64 a0_2)) (fun _ hk=>hk.2) (.slice A0_3 l0_3.length c0_3)) (fun _ hk=>⟨hk.1.1.1,⟨hk.1.1.2.1,⟨hk.1.1.2.2.1,⟨hk.1.1.2.2.2.1,⟨hk.1.1.2.2.2.2.1,⟨hk.1.1.2.2.2.2.2.1,⟨hk.1.1.2.2.2.2.2.2,hk.1.2⟩⟩⟩⟩⟩⟩⟩)))⟩;have n6_:zAO (w64.heap[gb780]?=some (.cells #[.string a0_0,.slice A0_1 l0_1.length c0_1,.int .i64 a0_2,.slice A0_3 l0_3.length c0_3] 25 (0,0))):=⟨(by rw [hw];exact (by refine aB_ ?_;refine blk_far ?_ NB780_834.out _;refine aB_ ?_;refine blk_far ?_ NB780_834.out _;refine aB_ ?_;refine blk_far ?_ NB780_834.out _;refine aB_ ?_;refine blk_far ?_ NB780_834.out _;refine aB_ ?_;exact BK780.out))⟩;have n7_:zAO (w64.heap[gb781]?=some (.cells #[.string a0_0,.slice A0_1 l0_1.length c0_1,.int .i64 a0_2,.slice A1_3 l1_3.length c1_3] 25 (0,0))):=⟨(by rw [hw];exact (by refine aB_ ?_;refine blk_far ?_ NB781_834.out _;refine aB_ ?_;refine blk_far ?_ NB781_834.out _;refine aB_ ?_;refine blk_far ?_ NB781_834.out _;refine aB_ ?_;refine blk_far ?_ NB781_834.out _;refine aB_ ?_;exact BK781.out))⟩;have n8_:zAO (w64.heap[gb834]?=some (.cells #[.string a0_0,.slice A0_1 l0_1.length c0_1,.int .i64 a0_2,.slice A0_3 l0_3.length c0_3] 25 (0,0))):=⟨(by rw [hw];exact (by refine aB_ ?_;refine blk_put (cs:=#[.string a0_0,.slice A0_1 l0_1.length c0_1,.int .i64 a0_2,.slice none 0 0]) ?_ 3 _ rfl;refine aB_ ?_;refine blk_put (cs:=#[.string a0_0,.slice A0_1 l0_1.length c0_1,.int .i64 0,.slice none 0 0]) ?_ 2 _ rfl;refine aB_ ?_;refine blk_put (cs:=#[.string a0_0,.slice none 0 0,.int .i64 0,.slice none 0 0]) ?_ 1 _ rfl;refine aB_ ?_;refine blk_put (cs:=#[.string (⟨#[]⟩:ByteArray),.slice none 0 0,.int .i64 0,.slice none 0 0]) ?_ 0 _ rfl;refine aB_ ?_;exact BK834.out))⟩;have n9_:zAO (Below w.heap.size w w64):=⟨(by rw [hw];exact (aQ_ HB.out GE780.out GE781.out GE834.out))⟩;clear hw;clear HO_5;clear HO_11;clear HO_12;clear HO_13;clear HO_781003;clear HO_782003;clear BK780;clear BK781;clear BK834;clear HB;have HO_5:=n0_;have HO_11:=n1_;have HO_12:=n2_;have HO_13:=n3_;have HO_781003:=n4_;have HO_782003:=n5_;have BK780:=n6_;have BK781:=n7_;have BK834:=n8_;have HB:=n9_;clear n0_ n1_ n2_ n3_ n4_ n5_ n6_ n7_ n8_ n9_)|((with_reducible refine zAQ (N:=93) rfl ?_);(try (refine zAU (by rfl) ?_;dsimp only));refine Kd.N_lit k33 _ 33 ?hg (N':=93) ?hd (xs:=([]:List (S33))) (inner:=[]) (ok:=(fun k_=>((P0_3_ k_∨P1_3_ k_)∨w.heap.size≤k_)∧some k_≠(.slice Ao44 t783.length co44:Value).ownBlock∧some k_≠(v800:Value).ownBlock∧some k_≠(v812:Value).ownBlock∧some k_≠(.slice Ao57 y814.length co57:Value).ownBlock∧k_≠gb780∧k_≠gb781∧k_≠gb834)) (okp:=(fun k_=>((P0_3_ k_∨P1_3_ k_)∨w.heap.size≤k_)∧some k_≠(.slice Ao44 t783.length co44:Value).ownBlock∧some k_≠(v800:Value).ownBlock∧some k_≠(v812:Value).ownBlock∧some k_≠(.slice Ao57 y814.length co57:Value).ownBlock∧k_≠gb780∧k_≠gb781∧k_≠gb834)) ?hr ?hp (fun _ hk=>hk) ((show ∀ k_,w64.heap.size≤k_→(fun k_=>((P0_3_ k_∨P1_3_ k_)∨w.heap.size≤k_)∧some k_≠(.slice Ao44 t783.length co44:Value).ownBlock∧some k_≠(v800:Value).ownBlock∧some k_≠(v812:Value).ownBlock∧some k_≠(.slice Ao57 y814.length co57:Value).ownBlock∧k_≠gb780∧k_≠gb781∧k_≠gb834) k_ from fun k_ hk=>⟨(.inr (Nat.le_trans (zAE (aQ_ HB.out GE780.out GE781.out GE834.out)) hk)),Kd.fresh' (Kd.R_lt (aR_ HO_5.out)) k_ hk,Kd.fresh' (Kd.N_lt (aN_ HO_11.out)) k_ hk,Kd.fresh' (Kd.R_lt (aR_ HO_12.out)) k_ hk,Kd.fresh' (Kd.N_lt (aN_ HO_13.out)) k_ hk,Kd.freshB (g:=gb780) (o:=.cells #[.string a0_0,.slice A0_1 l0_1.length c0_1,.int .i64 a0_2,.slice A0_3 l0_3.length c0_3] 25 (0,0)) (aB_ BK780.out) k_ hk,Kd.freshB (g:=gb781) (o:=.cells #[.string a0_0,.slice A0_1 l0_1.length c0_1,.int .i64 a0_2,.slice A1_3 l1_3.length c1_3] 25 (0,0)) (aB_ BK781.out) k_ hk,Kd.freshB (g:=gb834) (o:=.cells #[.string a0_0,.slice A0_1 l0_1.length c0_1,.int .i64 a0_2,.slice A0_3 l0_3.length c0_3] 25 (0,0)) (aB_ BK834.out) k_ hk⟩) _ (Nat.le_refl _)) (Below.refl _ _) (Nat.le_refl _) (by simp) ?_;(case hd=>rfl);(case hg=>rfl);(case hr=>first|(go_simp;done)|(go_simp;rfl));(case hp=>exact (Reps.none _ _));intro v836 w65 ho66 hb hg_ hnew_;clear hg_ hnew_;(first|rw [← Ny835.out] at ho66|(simp only [Int.reduceToNat] at ho66;rw [← Ny835.out] at ho66));have n0_:=aK_ (Kd.R_below (aR_ HO_5.out) hb);have n1_:=aK_ (Kd.N_elder' (aN_ HO_11.out) (Kd.N_base ho66) hb);have n2_:=aK_ (Kd.R_below (aR_ HO_12.out) hb);have n3_:=aK_ (Kd.N_elder' (aN_ HO_13.out) (Kd.N_base ho66) hb);have n4_:=aK_ (Kd.V_elder' (aV_ HO_781003.out) (Kd.N_base ho66) hb);have n5_:=aK_ (Kd.V_elder' (aV_ HO_782003.out) (Kd.N_base ho66) hb);have n6_:=aK_ (Kd.N_lower ho66 (zAE (aQ_ HB.out GE780.out GE781.out GE834.out)));have n7_:=aK_ (zAN (g:=gb780) (o:=.cells #[.string a0_0,.slice A0_1 l0_1.length c0_1,.int .i64 a0_2,.slice A0_3 l0_3.length c0_3] 25 (0,0)) (aB_ BK780.out) hb);have n8_:=aK_ (zAN (g:=gb781) (o:=.cells #[.string a0_0,.slice A0_1 l0_1.length c0_1,.int .i64 a0_2,.slice A1_3 l1_3.length c1_3] 25 (0,0)) (aB_ BK781.out) hb);have n9_:=aK_ (zAN (g:=gb834) (o:=.cells #[.string a0_0,.slice A0_1 l0_1.length c0_1,.int .i64 a0_2,.slice A0_3 l0_3.length c0_3] 25 (0,0)) (aB_ BK834.out) hb);have n10_:=aK_ (zAH (aQ_ HB.out GE780.out GE781.out GE834.out) hb);clear HO_5;clear HO_11;clear HO_12;clear HO_13;clear HO_781003;clear HO_782003;clear BK780;clear BK781;clear BK834;clear HB;have HO_5:=n0_;have HO_11:=n1_;have HO_12:=n2_;have HO_13:=n3_;have HO_781003:=n4_;have HO_782003:=n5_;have HO837:=n6_;have BK780:=n7_;have BK781:=n8_;have BK834:=n9_;have HB:=n10_;clear n0_ n1_ n2_ n3_ n4_ n5_ n6_ n7_ n8_ n9_ n10_;clear hb ho66;obtain ⟨Ao68,co68,eo68⟩:=Kd.N_slice HO_11.out;subst eo68)|((with_reducible refine gate_builtin (b:=.append) (xs:=#[.tmp 93,.tmp 94]) rfl ?_);(try (refine zAU (by rfl) ?_;dsimp only));at_builtin;refine Kd.N_append_rows k33 (w0:=w) w.heap.size rfl (.tmp 93) (.tmp 94) 23 33 (.agg #[(.int .i64 0),(.int .i64 0),(.int .i64 0),(.int .i64 0),(.slice none 0 0),(.int .i64 0)]) 64 rfl Tryd.underlying23 info33 rfl (by decide) (by omega) v836 y835 y799 _ _ _ (fun k_=>((P0_3_ k_∨P1_3_ k_)∨w.heap.size≤k_)∧some k_≠(.slice Ao44 t783.length co44:Value).ownBlock∧some k_≠(v812:Value).ownBlock∧some k_≠(.slice Ao57 y814.length co57:Value).ownBlock∧k_≠gb780∧k_≠gb781∧k_≠gb834) (fun k_=>((fun k_=>((P0_3_ k_∨P1_3_ k_)∨w.heap.size≤k_)∧some k_≠(.slice Ao44 t783.length co44:Value).ownBlock∧some k_≠(v812:Value).ownBlock∧some k_≠(.slice Ao57 y814.length co57:Value).ownBlock∧k_≠gb780∧k_≠gb781∧k_≠gb834)) k_∧some k_≠(v836:Value).ownBlock) rfl rfl ?aO ?aR (fun _ hk=>hk) ?aF ?aB ?aS ?aL ?_;(case aR=>exact (by skip;exact Kd.N_F (Kd.N_mono (ok':=(fun k_=>((fun k_=>((P0_3_ k_∨P1_3_ k_)∨w.heap.size≤k_)∧some k_≠(.slice Ao44 t783.length co44:Value).ownBlock∧some k_≠(v812:Value).ownBlock∧some k_≠(.slice Ao57 y814.length co57:Value).ownBlock∧k_≠gb780∧k_≠gb781∧k_≠gb834)) k_∧some k_≠(v836:Value).ownBlock)) (HO_11.out) (fun k_ hk=>⟨⟨hk.1.1,⟨hk.1.2.1,⟨hk.1.2.2.1,⟨hk.1.2.2.2.1,⟨hk.1.2.2.2.2.1,⟨hk.1.2.2.2.2.2.1,hk.1.2.2.2.2.2.2⟩⟩⟩⟩⟩⟩,hk.2⟩))));(case aB=>exact (aQ_ HB.out GE780.out GE781.out GE834.out));(case aF=>exact (fun k_ hk=>⟨(.inr (Nat.le_trans (zAE (aQ_ HB.out GE780.out GE781.out GE834.out)) hk)),Kd.fresh' (Kd.R_lt (aR_ HO_5.out)) k_ hk,Kd.fresh' (Kd.R_lt (aR_ HO_12.out)) k_ hk,Kd.fresh' (Kd.N_lt (aN_ HO_13.out)) k_ hk,Kd.freshB (g:=gb780) (o:=.cells #[.string a0_0,.slice A0_1 l0_1.length c0_1,.int .i64 a0_2,.slice A0_3 l0_3.length c0_3] 25 (0,0)) (aB_ BK780.out) k_ hk,Kd.freshB (g:=gb781) (o:=.cells #[.string a0_0,.slice A0_1 l0_1.length c0_1,.int .i64 a0_2,.slice A1_3 l1_3.length c1_3] 25 (0,0)) (aB_ BK781.out) k_ hk,Kd.freshB (g:=gb834) (o:=.cells #[.string a0_0,.slice A0_1 l0_1.length c0_1,.int .i64 a0_2,.slice A0_3 l0_3.length c0_3] 25 (0,0)) (aB_ BK834.out) k_ hk⟩));(case aO=>exact (by refine aN_ ?_;exact Kd.N_mono HO837.out (fun _ hk=>⟨hk.1,⟨hk.2.1,⟨hk.2.2.2.1,⟨hk.2.2.2.2.1,⟨hk.2.2.2.2.2.1,⟨hk.2.2.2.2.2.2.1,hk.2.2.2.2.2.2.2⟩⟩⟩⟩⟩⟩)));(case aS=>exact (zAE (aQ_ HB.out GE780.out GE781.out GE834.out)));(case aL=>have:=LMc51.out;omega);intro v839 w67 ho hb hg hat;rw [← Ny838.out] at ho;have n0_:=aK_ (Kd.R_over' (aR_ HO_5.out) (Kd.N_typed (aN_ HO837.out)) (by decide) hg);have n1_:=aK_ (Kd.N_afterv (ok:=(fun k_=>((P0_3_ k_∨P1_3_ k_)∨w.heap.size≤k_)∧some k_≠(.slice Ao44 t783.length co44:Value).ownBlock∧some k_≠(v812:Value).ownBlock∧some k_≠(.slice Ao57 y814.length co57:Value).ownBlock∧k_≠gb780∧k_≠gb781∧k_≠gb834)) (aN_ HO_11.out) hg hat);have n2_:=aK_ (Kd.R_over' (aR_ HO_12.out) (Kd.N_typed (aN_ HO837.out)) (by decide) hg);have n3_:=aK_ (Kd.N_afterv (ok:=(fun k_=>((P0_3_ k_∨P1_3_ k_)∨w.heap.size≤k_)∧some k_≠(.slice Ao44 t783.length co44:Value).ownBlock∧some k_≠(.slice Ao68 y799.length co68:Value).ownBlock∧some k_≠(v812:Value).ownBlock∧k_≠gb780∧k_≠gb781∧k_≠gb834)) (aN_ HO_13.out) hg hat);have n4_:=aK_ (Kd.V_afterv (ok:=(fun k_=>((P0_3_ k_∨P1_3_ k_)∨w.heap.size≤k_)∧some k_≠(.slice Ao44 t783.length co44:Value).ownBlock∧some k_≠(.slice Ao68 y799.length co68:Value).ownBlock∧some k_≠(v812:Value).ownBlock∧some k_≠(.slice Ao57 y814.length co57:Value).ownBlock∧k_≠gb780∧k_≠gb781∧k_≠gb834)) (aV_ HO_781003.out) hg hat);have n5_:=aK_ (Kd.V_afterv (ok:=(fun k_=>((P0_3_ k_∨P1_3_ k_)∨w.heap.size≤k_)∧some k_≠(.slice Ao44 t783.length co44:Value).ownBlock∧some k_≠(.slice Ao68 y799.length co68:Value).ownBlock∧some k_≠(v812:Value).ownBlock∧some k_≠(.slice Ao57 y814.length co57:Value).ownBlock∧k_≠gb780∧k_≠gb781∧k_≠gb834)) (aV_ HO_782003.out) hg hat);have n6_:=aK_ (blk_grown (g:=gb780) (o:=.cells #[.string a0_0,.slice A0_1 l0_1.length c0_1,.int .i64 a0_2,.slice A0_3 l0_3.length c0_3] 25 (0,0)) (aB_ BK780.out) hg (Kd.N_ne HO837.out BK780.out (by decide)));have n7_:=aK_ (blk_grown (g:=gb781) (o:=.cells #[.string a0_0,.slice A0_1 l0_1.length c0_1,.int .i64 a0_2,.slice A1_3 l1_3.length c1_3] 25 (0,0)) (aB_ BK781.out) hg (Kd.N_ne HO837.out BK781.out (by decide)));have n8_:=aK_ (blk_grown (g:=gb834) (o:=.cells #[.string a0_0,.slice A0_1 l0_1.length c0_1,.int .i64 a0_2,.slice A0_3 l0_3.length c0_3] 25 (0,0)) (aB_ BK834.out) hg (Kd.N_ne HO837.out BK834.out (by decide)));have n9_:=aK_ (hb);have n10_:=aK_ (ho);clear HO_5;clear HO_11;clear HO_12;clear HO_13;clear HO_781003;clear HO_782003;clear BK780;clear BK781;clear BK834;clear HB;clear HO837;have HO_5:=n0_;have HO_11:=n1_;have HO_12:=n2_;have HO_13:=n3_;have HO_781003:=n4_;have HO_782003:=n5_;have BK780:=n6_;have BK781:=n7_;have BK834:=n8_;have HB:=n9_;have HO840:=n10_;clear n0_ n1_ n2_ n3_ n4_ n5_ n6_ n7_ n8_ n9_ n10_;clear ho hb hg hat;obtain ⟨Ao69,co69,eo69⟩:=Kd.N_slice HO840.out;subst eo69;have hcz70_0:w67.cell? ⟨gb834,0,none⟩=some (.string a0_0):=(zAB BK834.out 0).trans rfl;have hcz70_1:w67.cell? ⟨gb834,1,none⟩=some (.slice A0_1 l0_1.length c0_1):=(zAB BK834.out 1).trans rfl;have hcz70_2:w67.cell? ⟨gb834,2,none⟩=some (.int .i64 a0_2):=(zAB BK834.out 2).trans rfl;have hcz70_3:w67.cell? ⟨gb834,3,none⟩=some (.slice A0_3 l0_3.length c0_3):=(zAB BK834.out 3).trans rfl;have hfz70_0:=zAA BK834.out 0;have hfz70_1:=zAA BK834.out 1;have hfz70_2:=zAA BK834.out 2;have hfz70_3:=zAA BK834.out 3)|((with_reducible refine gate_store (t:=23) (p:=96) rfl ?_);refine store_event (t:=23) (p:=96) (v:=?vo_w71) (w1:=(w67.setCell ⟨gb834,3,none⟩ (.slice Ao69 y838.length co69))) ?hg ?ho ?hn ?hr ?_;(case ho=>rfl);(case hg=>rfl);(case hn=>rfl);(case hr=>first|(go_simp;done)|(go_simp;rfl));intro w71 hw;have n0_:zAO (Kd.R (Kd.int .i64) 3 w71 w.heap.size (fun k_=>(w.heap.size≤k_)∧some k_≠(v812:Value).ownBlock) (.slice Ao44 t783.length co44) t783):=⟨(by rw [hw];exact (by refine aR_ ?_;exact Kd.R_mono (Kd.R_far (p:=⟨gb834,3,none⟩) (Kd.R_types HO_5.out BK834.out (by decide)) (fun _ hk=>hk.2) (.slice Ao69 y838.length co69)) (fun _ hk=>⟨hk.1.1,hk.1.2⟩)))⟩;have n1_:zAO (Kd.N k33 33 w71 w.heap.size (fun k_=>((P0_3_ k_∨P1_3_ k_)∨w.heap.size≤k_)∧some k_≠(.slice Ao44 t783.length co44:Value).ownBlock∧some k_≠(v812:Value).ownBlock∧some k_≠(.slice Ao57 y814.length co57:Value).ownBlock∧some k_≠(.slice Ao69 y838.length co69:Value).ownBlock∧k_≠gb780∧k_≠gb781∧k_≠gb834) (.slice Ao68 y799.length co68) y799):=⟨(by rw [hw];exact (by refine aN_ ?_;exact Kd.N_mono (Kd.N_far (p:=⟨gb834,3,none⟩) (Kd.N_mono HO_11.out (fun k_ hk=>(⟨hk,hk.1.2.2.2.2.2.2⟩:_∧k_≠gb834))) (fun _ hk=>hk.2) (.slice Ao69 y838.length co69)) (fun _ hk=>⟨hk.1.1.1,⟨hk.1.1.2.1,⟨hk.1.1.2.2.1,⟨hk.1.1.2.2.2.1,⟨hk.1.2,⟨hk.1.1.2.2.2.2.1,⟨hk.1.1.2.2.2.2.2.1,hk.1.1.2.2.2.2.2.2⟩⟩⟩⟩⟩⟩⟩)))⟩;have n2_:zAO (Kd.R (Kd.int .i64) 3 w71 w.heap.size (fun k_=>(w.heap.size≤k_)∧some k_≠(.slice Ao44 t783.length co44:Value).ownBlock) v812 y811):=⟨(by rw [hw];exact (by refine aR_ ?_;exact Kd.R_mono (Kd.R_far (p:=⟨gb834,3,none⟩) (Kd.R_types HO_12.out BK834.out (by decide)) (fun _ hk=>hk.2) (.slice Ao69 y838.length co69)) (fun _ hk=>⟨hk.1.1,hk.1.2⟩)))⟩;have n3_:zAO (Kd.N k33 33 w71 w.heap.size (fun k_=>((P0_3_ k_∨P1_3_ k_)∨w.heap.size≤k_)∧some k_≠(.slice Ao44 t783.length co44:Value).ownBlock∧some k_≠(.slice Ao68 y799.length co68:Value).ownBlock∧some k_≠(v812:Value).ownBlock∧some k_≠(.slice Ao69 y838.length co69:Value).ownBlock∧k_≠gb780∧k_≠gb781∧k_≠gb834) (.slice Ao57 y814.length co57) y814):=⟨(by rw [hw];exact (by refine aN_ ?_;exact Kd.N_mono (Kd.N_far (p:=⟨gb834,3,none⟩) (Kd.N_mono HO_13.out (fun k_ hk=>(⟨hk,hk.1.2.2.2.2.2.2⟩:_∧k_≠gb834))) (fun _ hk=>hk.2) (.slice Ao69 y838.length co69)) (fun _ hk=>⟨hk.1.1.1,⟨hk.1.1.2.1,⟨hk.1.1.2.2.1,⟨hk.1.1.2.2.2.1,⟨hk.1.2,⟨hk.1.1.2.2.2.2.1,⟨hk.1.1.2.2.2.2.2.1,hk.1.1.2.2.2.2.2.2⟩⟩⟩⟩⟩⟩⟩)))⟩;have n4_:zAO (Kd.V k33 33 w71 w.heap.size (fun k_=>((P0_3_ k_∨P1_3_ k_)∨w.heap.size≤k_)∧some k_≠(.slice Ao44 t783.length co44:Value).ownBlock∧some k_≠(.slice Ao68 y799.length co68:Value).ownBlock∧some k_≠(v812:Value).ownBlock∧some k_≠(.slice Ao57 y814.length co57:Value).ownBlock∧some k_≠(.slice Ao69 y838.length co69:Value).ownBlock∧k_≠gb780∧k_≠gb781∧k_≠gb834) (.slice A0_3 l0_3.length c0_3) l0_3):=⟨(by rw [hw];exact (by refine aV_ ?_;exact Kd.V_mono (Kd.V_far (p:=⟨gb834,3,none⟩) (Kd.V_mono HO_781003.out (fun k_ hk=>(⟨hk,hk.1.2.2.2.2.2.2.2⟩:_∧k_≠gb834))) (fun _ hk=>hk.2) (.slice Ao69 y838.length co69)) (fun _ hk=>⟨hk.1.1.1,⟨hk.1.1.2.1,⟨hk.1.1.2.2.1,⟨hk.1.1.2.2.2.1,⟨hk.1.1.2.2.2.2.1,⟨hk.1.2,⟨hk.1.1.2.2.2.2.2.1,⟨hk.1.1.2.2.2.2.2.2.1,hk.1.1.2.2.2.2.2.2.2⟩⟩⟩⟩⟩⟩⟩⟩)))⟩;have n5_:zAO (Kd.V k33 33 w71 w.heap.size (fun k_=>((P0_3_ k_∨P1_3_ k_)∨w.heap.size≤k_)∧some k_≠(.slice Ao44 t783.length co44:Value).ownBlock∧some k_≠(.slice Ao68 y799.length co68:Value).ownBlock∧some k_≠(v812:Value).ownBlock∧some k_≠(.slice Ao57 y814.length co57:Value).ownBlock∧some k_≠(.slice Ao69 y838.length co69:Value).ownBlock∧k_≠gb780∧k_≠gb781∧k_≠gb834) (.slice A1_3 l1_3.length c1_3) l1_3):=⟨(by rw [hw];exact (by refine aV_ ?_;exact Kd.V_mono (Kd.V_far (p:=⟨gb834,3,none⟩) (Kd.V_mono HO_782003.out (fun k_ hk=>(⟨hk,hk.1.2.2.2.2.2.2.2⟩:_∧k_≠gb834))) (fun _ hk=>hk.2) (.slice Ao69 y838.length co69)) (fun _ hk=>⟨hk.1.1.1,⟨hk.1.1.2.1,⟨hk.1.1.2.2.1,⟨hk.1.1.2.2.2.1,⟨hk.1.1.2.2.2.2.1,⟨hk.1.2,⟨hk.1.1.2.2.2.2.2.1,⟨hk.1.1.2.2.2.2.2.2.1,hk.1.1.2.2.2.2.2.2.2⟩⟩⟩⟩⟩⟩⟩⟩)))⟩;have n6_:zAO (Kd.N k33 33 w71 w.heap.size (fun k_=>((P0_3_ k_∨P1_3_ k_)∨w.heap.size≤k_)∧some k_≠(.slice Ao44 t783.length co44:Value).ownBlock∧some k_≠(v812:Value).ownBlock∧some k_≠(.slice Ao57 y814.length co57:Value).ownBlock∧k_≠gb780∧k_≠gb781∧k_≠gb834) (.slice Ao69 y838.length co69) y838):=⟨(by rw [hw];exact (by refine aN_ ?_;exact Kd.N_mono (Kd.N_far (p:=⟨gb834,3,none⟩) (Kd.N_mono HO840.out (fun k_ hk=>(⟨hk,hk.2.2.2.2.2.2⟩:_∧k_≠gb834))) (fun _ hk=>hk.2) (.slice Ao69 y838.length co69)) (fun _ hk=>⟨hk.1.1,⟨hk.1.2.1,⟨hk.1.2.2.1,⟨hk.1.2.2.2.1,⟨hk.1.2.2.2.2.1,⟨hk.1.2.2.2.2.2.1,hk.1.2.2.2.2.2.2⟩⟩⟩⟩⟩⟩)))⟩;have n7_:zAO (w71.heap[gb780]?=some (.cells #[.string a0_0,.slice A0_1 l0_1.length c0_1,.int .i64 a0_2,.slice A0_3 l0_3.length c0_3] 25 (0,0))):=⟨(by rw [hw];exact (by refine aB_ ?_;refine blk_far ?_ NB780_834.out _;refine aB_ ?_;exact BK780.out))⟩;have n8_:zAO (w71.heap[gb781]?=some (.cells #[.string a0_0,.slice A0_1 l0_1.length c0_1,.int .i64 a0_2,.slice A1_3 l1_3.length c1_3] 25 (0,0))):=⟨(by rw [hw];exact (by refine aB_ ?_;refine blk_far ?_ NB781_834.out _;refine aB_ ?_;exact BK781.out))⟩;have n9_:zAO (w71.heap[gb834]?=some (.cells #[.string a0_0,.slice A0_1 l0_1.length c0_1,.int .i64 a0_2,.slice Ao69 y838.length co69] 25 (0,0))):=⟨(by rw [hw];exact (by refine aB_ ?_;refine blk_put (cs:=#[.string a0_0,.slice A0_1 l0_1.length c0_1,.int .i64 a0_2,.slice A0_3 l0_3.length c0_3]) ?_ 3 _ rfl;refine aB_ ?_;exact BK834.out))⟩;have n10_:zAO (Below w.heap.size w w71):=⟨(by rw [hw];exact (aQ_ HB.out GE780.out GE781.out GE834.out))⟩;clear hw;clear HO_5;clear HO_11;clear HO_12;clear HO_13;clear HO_781003;clear HO_782003;clear HO840;clear BK780;clear BK781;clear BK834;clear HB;have HO_5:=n0_;have HO_11:=n1_;have HO_12:=n2_;have HO_13:=n3_;have HO_781003:=n4_;have HO_782003:=n5_;have HO840:=n6_;have BK780:=n7_;have BK781:=n8_;have BK834:=n9_;have HB:=n10_;clear n0_ n1_ n2_ n3_ n4_ n5_ n6_ n7_ n8_ n9_ n10_))
 have n0_:=aK_ (Kd.R_drew HO_5.out)
 have n1_:=aK_ (Kd.N_drew HO_11.out)
 have n2_:=aK_ (Kd.R_drew HO_12.out)
 have n3_:=aK_ (Kd.N_drew HO_13.out)
 have n4_:=aK_ (Kd.V_drew HO_781003.out)
 have n5_:=aK_ (Kd.V_drew HO_782003.out)
 have n6_:=aK_ (Kd.N_drew HO840.out)
 have n7_:=aK_ (blk_drew BK780.out)
 have n8_:=aK_ (blk_drew BK781.out)
 have n9_:=aK_ (blk_drew BK834.out)
 have n10_:=aK_ (below_drew1 HB.out)
 clear HO_5
 clear HO_11
 clear HO_12
 clear HO_13
 clear HO_781003
 clear HO_782003
 clear HO840
 clear BK780
 clear BK781
 clear BK834
 clear HB
 have HO_5:=n0_
 have HO_11:=n1_
 have HO_12:=n2_
 have HO_13:=n3_
 have HO_781003:=n4_
 have HO_782003:=n5_
 have HO840:=n6_
 have BK780:=n7_
 have BK781:=n8_
 have BK834:=n9_
 have HB:=n10_
 clear n0_ n1_ n2_ n3_ n4_ n5_ n6_ n7_ n8_ n9_ n10_
 have p841:0≤(x14_2:Int):=aD_
 have q841:x14_2<(y814.length:Int):=aD_
 obtain ⟨ad841,A841_4,c841_4,e841,hx841_0,hx841_1,hx841_2,hx841_3,hx841_4,hx841_5,hl841_4,hi841_4⟩:=at_T33 (Kd.N_reads' HO_13.out).2.2 x14_2 p841 q841
 cases e841
 obtain ⟨ce841,hce841,hMe841,hcc841⟩:=Kd.N_get HO_13.out z33 x14_2 p841 (by first|exact q841|exact aD_|(have e_:=(Kd.N_reads' HO_13.out).1;omega))
 obtain ⟨ua841_4,uc841_4,rfl,ul841_4,ge841_4⟩:=k33_openF hMe841
 have hv841_4:=hcc841 4 _ rfl
 rw [add_field _ _ 4 (by omega)] at hv841_4
 replace hv841_4:=Option.some.inj (hv841_4.symm.trans hx841_4)
 injection hv841_4 with hva_ hvn_ hvc_
 rw [hva_] at ge841_4
 rw [hvc_] at ul841_4
 have HL841_4:=aK_ (show Kd.V k45 45 _ w.heap.size _ _ ((zAC y814 x14_2).f4) from Kd.V_mk ul841_4 ge841_4)
 clear hva_ hvn_ hvc_ ge841_4 ul841_4
 clear hcc841 hce841
 have HR841_4:=aK_ hi841_4
 have HC841_4:=aK_ hl841_4
 clear hi841_4 hl841_4
 replace p841:=eq_true p841
 replace q841:=eq_true q841
 refine start_ (n:=10) (S:=fun w'=>w'.cell? ⟨gb834,0,none⟩=some (.string a0_0)∧w'.cell? ⟨gb834,1,none⟩=some (.slice A0_1 l0_1.length c0_1)∧w'.cell? ⟨gb834,2,none⟩=some (.int .i64 a0_2)∧w'.cell? ⟨gb834,3,none⟩=some (.slice Ao69 y838.length co69)∧w'.cell? (ad841.add ((x14_2).toNat * 6))=some (.int .i64 ((zAC y814 x14_2).f0))∧w'.cell? ⟨(ad841.add ((x14_2).toNat * 6)).block,(ad841.add ((x14_2).toNat * 6)).off+1,none⟩=some (.int .i64 ((zAC y814 x14_2).f1))∧w'.cell? ⟨(ad841.add ((x14_2).toNat * 6)).block,(ad841.add ((x14_2).toNat * 6)).off+2,none⟩=some (.int .i64 ((zAC y814 x14_2).f2))∧w'.cell? ⟨(ad841.add ((x14_2).toNat * 6)).block,(ad841.add ((x14_2).toNat * 6)).off+3,none⟩=some (.int .i64 ((zAC y814 x14_2).f3))∧w'.cell? ⟨(ad841.add ((x14_2).toNat * 6)).block,(ad841.add ((x14_2).toNat * 6)).off+4,none⟩=some (.slice A841_4 ((zAC y814 x14_2).f4).length c841_4)∧w'.cell? ⟨(ad841.add ((x14_2).toNat * 6)).block,(ad841.add ((x14_2).toNat * 6)).off+5,none⟩=some (.int .i64 ((zAC y814 x14_2).f5))) (ds:=[7,9]) #[false,false,false,false,false,false,false,false,false,false] (by kernel_rfl) rfl rfl ⟨(zAB BK834.out 0).trans rfl,(zAB BK834.out 1).trans rfl,(zAB BK834.out 2).trans rfl,(zAB BK834.out 3).trans rfl,hx841_0,hx841_1,hx841_2,hx841_3,hx841_4,hx841_5⟩ (fun hHeld=>?_);refine with_tabW zAD.tab21 zAD.bits21 (fun HT_ HW_=>?_)
 generalize w71.drew=w72 at HO_5 HO_11 HO_12 HO_13 HO_781003 HO_782003 HO840 BK780 BK781 BK834 HB HL841_4 HR841_4 hx841_0 hx841_1 hx841_2 hx841_3 hx841_4 hx841_5 hHeld ⊢
 refine pure_ (i:=0) (N:=some 97) (v:=?_) (a':=?_) #[true,false,false,false,false,false,false,false,false,false] rfl rfl (any_of HT_.out (by kernel_rfl)) (fun _ _ _ h=>h) (Or.inl ⟨by rfl,?_⟩) ?_ ?_
 rotate_left
 ·intro w'
  go_simp
  with_reducible rfl
 rotate_left
 ·simp only [Act.put,List.setIfInBounds_toArray,List.set_cons_zero,List.set_cons_succ,i64_w,i32_w]
  rfl
 refine pure_ (i:=2) (N:=some 99) (v:=?_) (a':=?_) #[true,false,true,false,false,false,false,false,false,false] rfl rfl (any_of HT_.out (by kernel_rfl)) (fun _ _ _ h=>h) (Or.inl ⟨by rfl,?_⟩) ?_ ?_
 rotate_left
 ·intro w'
  go_simp
  with_reducible rfl
 rotate_left
 ·simp only [Act.put,List.setIfInBounds_toArray,List.set_cons_zero,List.set_cons_succ,i64_w,i32_w]
  rfl
 refine pure_ (i:=3) (N:=some 100) (v:=?_) (a':=?_) #[true,false,true,true,false,false,false,false,false,false] rfl rfl (any_of HT_.out (by kernel_rfl)) (fun _ _ _ h=>h) (Or.inl ⟨by rfl,?_⟩) ?_ ?_
 rotate_left
 ·intro w'
  go_simp
  with_reducible rfl
 rotate_left
 ·simp only [Act.put,List.setIfInBounds_toArray,List.set_cons_zero,List.set_cons_succ,i64_w,i32_w]
  rfl
 refine pure_ (i:=4) (N:=some 101) (v:=?_) (a':=?_) #[true,false,true,true,true,false,false,false,false,false] rfl rfl (any_of HT_.out (by kernel_rfl)) (fun _ _ _ h=>h) (Or.inl ⟨by rfl,?_⟩) ?_ ?_
 rotate_left
 ·intro w'
  go_simp
  with_reducible rfl
 rotate_left
 ·simp only [Act.put,List.setIfInBounds_toArray,List.set_cons_zero,List.set_cons_succ,i64_w,i32_w]
  rfl
 refine take_ (i:=1) (N:=some 98) (v:=?_) (a':=?_) #[true,true,true,true,true,false,false,false,false,false] rfl rfl (take_ofW HT_.out HW_.out (by kernel_rfl)) (fun _ _ _ h=>h) (Or.inl ⟨by rfl,?_⟩) hHeld ?_ ?_
 rotate_left
 ·rintro w' ⟨s0,s1,s2,s3,s4,s5,s6,s7,s8,s9⟩
  go_simp
  with_reducible rfl
 rotate_left
 ·simp only [Act.put,List.setIfInBounds_toArray,List.set_cons_zero,List.set_cons_succ,i64_w,i32_w]
  rfl
 refine take_ (i:=5) (N:=some 102) (v:=?_) (a':=?_) #[true,true,true,true,true,true,false,false,false,false] rfl rfl (take_ofW HT_.out HW_.out (by kernel_rfl)) (fun _ _ _ h=>h) (Or.inl ⟨by rfl,?_⟩) hHeld ?_ ?_
 rotate_left
 ·rintro w' ⟨s0,s1,s2,s3,s4,s5,s6,s7,s8,s9⟩
  go_simp
  with_reducible rfl
 rotate_left
 ·simp only [Act.put,List.setIfInBounds_toArray,List.set_cons_zero,List.set_cons_succ,i64_w,i32_w]
  rfl
 refine one_ (i:=6) (N:=some 103) #[true,true,true,true,true,true,true,false,false,false] rfl rfl (one_of HT_.out (by kernel_rfl)) (by decide) (fun K hK=>?_)
 refine value_ (w1:=?_) (v:=?_) (by rfl) rfl ?_ ?_
 rotate_left 2
 ·go_simp
  constructor
  ·rfl
  ·rfl
 refine hK.out _ _ ⟨(zAB (blk_alloc BK834.out _) 0).trans rfl,(zAB (blk_alloc BK834.out _) 1).trans rfl,(zAB (blk_alloc BK834.out _) 2).trans rfl,(zAB (blk_alloc BK834.out _) 3).trans rfl,(World.cell?_alloc_lt _ _ _ (World.block_lt_of_cell? _ _ (hHeld.2.2.2.2.1))).trans (hHeld.2.2.2.2.1),(World.cell?_alloc_lt _ _ _ (World.block_lt_of_cell? _ _ (hHeld.2.2.2.2.2.1))).trans (hHeld.2.2.2.2.2.1),(World.cell?_alloc_lt _ _ _ (World.block_lt_of_cell? _ _ (hHeld.2.2.2.2.2.2.1))).trans (hHeld.2.2.2.2.2.2.1),(World.cell?_alloc_lt _ _ _ (World.block_lt_of_cell? _ _ (hHeld.2.2.2.2.2.2.2.1))).trans (hHeld.2.2.2.2.2.2.2.1),(World.cell?_alloc_lt _ _ _ (World.block_lt_of_cell? _ _ (hHeld.2.2.2.2.2.2.2.2.1))).trans (hHeld.2.2.2.2.2.2.2.2.1),(World.cell?_alloc_lt _ _ _ (World.block_lt_of_cell? _ _ (hHeld.2.2.2.2.2.2.2.2.2))).trans (hHeld.2.2.2.2.2.2.2.2.2)⟩ (fun hHeld=>?_)
 clear hK K
 refine norm_ (a':=?_) ?_ ?_
 rotate_left
 ·show Act.put _ (some 103) _=_
  simp only [Act.put,List.setIfInBounds_toArray,List.set_cons_zero,List.set_cons_succ,i64_w,i32_w]
  rfl
 refine last_ (i:=7) (N:=some 104) #[true,true,true,true,true,true,true,true,false,false] rfl rfl (one_of HT_.out (by kernel_rfl)) (by decide) (fun K hK=>?_)
 refine Kd.N_append_step k33 (w0:=w) w.heap.size (by rfl) (.tmp 98) (.tmp 103) 23 33 (.agg #[(.int .i64 0),(.int .i64 0),(.int .i64 0),(.int .i64 0),(.slice none 0 0),(.int .i64 0)]) 64 rfl Tryd.underlying23 info33 rfl (by decide) (by omega) (.slice Ao69 y838.length co69) y838 (⟨(zAC y814 x14_2).f0,(zAC y814 x14_2).f1,(zAC y814 x14_2).f2,(zAC y814 x14_2).f3,(zAC y814 x14_2).f4,(zAC y814 x14_2).f5⟩:S33) [.int .i64 ((zAC y814 x14_2).f0),.int .i64 ((zAC y814 x14_2).f1),.int .i64 ((zAC y814 x14_2).f2),.int .i64 ((zAC y814 x14_2).f3),.slice A841_4 ((zAC y814 x14_2).f4).length c841_4,.int .i64 ((zAC y814 x14_2).f5)] (fun k_=>((P0_3_ k_∨P1_3_ k_)∨w.heap.size≤k_)∧some k_≠(.slice Ao44 t783.length co44:Value).ownBlock∧some k_≠(v812:Value).ownBlock∧some k_≠(.slice (some ad841) y814.length co57:Value).ownBlock∧k_≠gb780∧k_≠gb781∧k_≠gb834) (fun k_=>((fun k_=>((P0_3_ k_∨P1_3_ k_)∨w.heap.size≤k_)∧some k_≠(.slice Ao44 t783.length co44:Value).ownBlock∧some k_≠(v812:Value).ownBlock∧some k_≠(.slice (some ad841) y814.length co57:Value).ownBlock∧k_≠gb780∧k_≠gb781∧k_≠gb834)) k_∧some k_≠(.slice Ao69 y838.length co69:Value).ownBlock) rfl rfl ?aP (fun _ hk=>hk) ?aF ?aO ?aB ?aS ?aL ?_
 (case aP=>exact (k33_mkF _ _ (⟨(zAC y814 x14_2).f0,(zAC y814 x14_2).f1,(zAC y814 x14_2).f2,(zAC y814 x14_2).f3,(zAC y814 x14_2).f4,(zAC y814 x14_2).f5⟩:S33) (Kd.V_reads' (Kd.V_mono (ok':=(fun k_=>((fun k_=>((P0_3_ k_∨P1_3_ k_)∨w.heap.size≤k_)∧some k_≠(.slice Ao44 t783.length co44:Value).ownBlock∧some k_≠(v812:Value).ownBlock∧some k_≠(.slice (some ad841) y814.length co57:Value).ownBlock∧k_≠gb780∧k_≠gb781∧k_≠gb834)) k_∧some k_≠(.slice Ao69 y838.length co69:Value).ownBlock)) (HL841_4.out) (fun k_ hk=>⟨⟨hk.1.1,⟨hk.1.2.1,⟨hk.1.2.2.2.1,⟨hk.2,⟨hk.1.2.2.2.2.2.1,⟨hk.1.2.2.2.2.2.2.1,hk.1.2.2.2.2.2.2.2⟩⟩⟩⟩⟩⟩,hk.1.2.2.2.2.1⟩))).2.1 (Kd.V_F (Kd.V_mono (ok':=(fun k_=>((fun k_=>((P0_3_ k_∨P1_3_ k_)∨w.heap.size≤k_)∧some k_≠(.slice Ao44 t783.length co44:Value).ownBlock∧some k_≠(v812:Value).ownBlock∧some k_≠(.slice (some ad841) y814.length co57:Value).ownBlock∧k_≠gb780∧k_≠gb781∧k_≠gb834)) k_∧some k_≠(.slice Ao69 y838.length co69:Value).ownBlock)) (HL841_4.out) (fun k_ hk=>⟨⟨hk.1.1,⟨hk.1.2.1,⟨hk.1.2.2.2.1,⟨hk.2,⟨hk.1.2.2.2.2.2.1,⟨hk.1.2.2.2.2.2.2.1,hk.1.2.2.2.2.2.2.2⟩⟩⟩⟩⟩⟩,hk.1.2.2.2.2.1⟩)))))
 (case aB=>exact (aQ_ HB.out GE780.out GE781.out GE834.out))
 (case aF=>exact (fun k_ hk=>⟨(.inr (Nat.le_trans (zAE (aQ_ HB.out GE780.out GE781.out GE834.out)) hk)),Kd.fresh' (Kd.R_lt (aR_ HO_5.out)) k_ hk,Kd.fresh' (Kd.R_lt (aR_ HO_12.out)) k_ hk,Kd.fresh' (Kd.N_lt (aN_ HO_13.out)) k_ hk,Kd.freshB (g:=gb780) (o:=.cells #[.string a0_0,.slice A0_1 l0_1.length c0_1,.int .i64 a0_2,.slice A0_3 l0_3.length c0_3] 25 (0,0)) (aB_ BK780.out) k_ hk,Kd.freshB (g:=gb781) (o:=.cells #[.string a0_0,.slice A0_1 l0_1.length c0_1,.int .i64 a0_2,.slice A1_3 l1_3.length c1_3] 25 (0,0)) (aB_ BK781.out) k_ hk,Kd.freshB (g:=gb834) (o:=.cells #[.string a0_0,.slice A0_1 l0_1.length c0_1,.int .i64 a0_2,.slice Ao69 y838.length co69] 25 (0,0)) (aB_ BK834.out) k_ hk⟩))
 (case aO=>exact (aN_ HO840.out))
 (case aS=>exact (zAE (aQ_ HB.out GE780.out GE781.out GE834.out)))
 (case aL=>have:=LMc53.out;omega)
 intro v843 w73 ho hb hg hat
 rw [← Ny842.out] at ho
 have n0_:=aK_ (Kd.R_over' (aR_ HO_5.out) (Kd.N_typed (aN_ HO840.out)) (by decide) hg)
 have n1_:=aK_ (Kd.N_afterv (ok:=(fun k_=>((P0_3_ k_∨P1_3_ k_)∨w.heap.size≤k_)∧some k_≠(.slice Ao44 t783.length co44:Value).ownBlock∧some k_≠(v812:Value).ownBlock∧some k_≠(.slice (some ad841) y814.length co57:Value).ownBlock∧k_≠gb780∧k_≠gb781∧k_≠gb834)) (by refine aN_ ?_;exact Kd.N_mono HO_11.out (fun _ hk=>⟨⟨hk.1,⟨hk.2.1,⟨hk.2.2.1,⟨hk.2.2.2.1,⟨hk.2.2.2.2.2.1,⟨hk.2.2.2.2.2.2.1,hk.2.2.2.2.2.2.2⟩⟩⟩⟩⟩⟩,hk.2.2.2.2.1⟩)) hg hat)
 have n2_:=aK_ (Kd.R_over' (aR_ HO_12.out) (Kd.N_typed (aN_ HO840.out)) (by decide) hg)
 have n3_:=aK_ (Kd.N_afterv (ok:=(fun k_=>((P0_3_ k_∨P1_3_ k_)∨w.heap.size≤k_)∧some k_≠(.slice Ao44 t783.length co44:Value).ownBlock∧some k_≠(.slice Ao68 y799.length co68:Value).ownBlock∧some k_≠(v812:Value).ownBlock∧k_≠gb780∧k_≠gb781∧k_≠gb834)) (by refine aN_ ?_;exact Kd.N_mono HO_13.out (fun _ hk=>⟨⟨hk.1,⟨hk.2.1,⟨hk.2.2.1,⟨hk.2.2.2.1,⟨hk.2.2.2.2.2.1,⟨hk.2.2.2.2.2.2.1,hk.2.2.2.2.2.2.2⟩⟩⟩⟩⟩⟩,hk.2.2.2.2.1⟩)) hg hat)
 have n4_:=aK_ (Kd.V_afterv (ok:=(fun k_=>((P0_3_ k_∨P1_3_ k_)∨w.heap.size≤k_)∧some k_≠(.slice Ao44 t783.length co44:Value).ownBlock∧some k_≠(.slice Ao68 y799.length co68:Value).ownBlock∧some k_≠(v812:Value).ownBlock∧some k_≠(.slice (some ad841) y814.length co57:Value).ownBlock∧k_≠gb780∧k_≠gb781∧k_≠gb834)) (by refine aV_ ?_;exact Kd.V_mono HO_781003.out (fun _ hk=>⟨⟨hk.1,⟨hk.2.1,⟨hk.2.2.1,⟨hk.2.2.2.1,⟨hk.2.2.2.2.1,⟨hk.2.2.2.2.2.2.1,⟨hk.2.2.2.2.2.2.2.1,hk.2.2.2.2.2.2.2.2⟩⟩⟩⟩⟩⟩⟩,hk.2.2.2.2.2.1⟩)) hg hat)
 have n5_:=aK_ (Kd.V_afterv (ok:=(fun k_=>((P0_3_ k_∨P1_3_ k_)∨w.heap.size≤k_)∧some k_≠(.slice Ao44 t783.length co44:Value).ownBlock∧some k_≠(.slice Ao68 y799.length co68:Value).ownBlock∧some k_≠(v812:Value).ownBlock∧some k_≠(.slice (some ad841) y814.length co57:Value).ownBlock∧k_≠gb780∧k_≠gb781∧k_≠gb834)) (by refine aV_ ?_;exact Kd.V_mono HO_782003.out (fun _ hk=>⟨⟨hk.1,⟨hk.2.1,⟨hk.2.2.1,⟨hk.2.2.2.1,⟨hk.2.2.2.2.1,⟨hk.2.2.2.2.2.2.1,⟨hk.2.2.2.2.2.2.2.1,hk.2.2.2.2.2.2.2.2⟩⟩⟩⟩⟩⟩⟩,hk.2.2.2.2.2.1⟩)) hg hat)
 have n6_:=aK_ (blk_grown (g:=gb780) (o:=.cells #[.string a0_0,.slice A0_1 l0_1.length c0_1,.int .i64 a0_2,.slice A0_3 l0_3.length c0_3] 25 (0,0)) (aB_ BK780.out) hg (Kd.N_ne HO840.out BK780.out (by decide)))
 have n7_:=aK_ (blk_grown (g:=gb781) (o:=.cells #[.string a0_0,.slice A0_1 l0_1.length c0_1,.int .i64 a0_2,.slice A1_3 l1_3.length c1_3] 25 (0,0)) (aB_ BK781.out) hg (Kd.N_ne HO840.out BK781.out (by decide)))
 have n8_:=aK_ (blk_grown (g:=gb834) (o:=.cells #[.string a0_0,.slice A0_1 l0_1.length c0_1,.int .i64 a0_2,.slice Ao69 y838.length co69] 25 (0,0)) (aB_ BK834.out) hg (Kd.N_ne HO840.out BK834.out (by decide)))
 have n9_:=aK_ (Kd.V_afterv (ok:=(fun k_=>((P0_3_ k_∨P1_3_ k_)∨w.heap.size≤k_)∧some k_≠(.slice Ao44 t783.length co44:Value).ownBlock∧some k_≠(.slice Ao68 y799.length co68:Value).ownBlock∧some k_≠(v812:Value).ownBlock∧some k_≠(.slice (some ad841) y814.length co57:Value).ownBlock∧k_≠gb780∧k_≠gb781∧k_≠gb834)) (by refine aV_ ?_;exact Kd.V_mono HL841_4.out (fun _ hk=>⟨⟨hk.1.1,⟨hk.1.2.1,⟨hk.1.2.2.1,⟨hk.1.2.2.2.1,⟨hk.2,⟨hk.1.2.2.2.2.2.1,⟨hk.1.2.2.2.2.2.2.1,hk.1.2.2.2.2.2.2.2⟩⟩⟩⟩⟩⟩⟩,hk.1.2.2.2.2.1⟩)) hg hat)
 have n10_:=aK_ (hb)
 have n11_:=aK_ (ho)
 clear HO_5
 clear HO_11
 clear HO_12
 clear HO_13
 clear HO_781003
 clear HO_782003
 clear BK780
 clear BK781
 clear BK834
 clear HL841_4
 clear HB
 clear HO840
 have HO_5:=n0_
 have HO_11:=n1_
 have HO_12:=n2_
 have HO_13:=n3_
 have HO_781003:=n4_
 have HO_782003:=n5_
 have BK780:=n6_
 have BK781:=n7_
 have BK834:=n8_
 have HL841_4:=n9_
 have HB:=n10_
 have HO844:=n11_
 clear n0_ n1_ n2_ n3_ n4_ n5_ n6_ n7_ n8_ n9_ n10_ n11_
 clear ho hb hg hat
 obtain ⟨Ao74,co74,eo74⟩:=Kd.N_slice HO844.out
 (first|subst eo74|(injection eo74 with f1_ f2_ f3_;have f4_:=f1_.symm;have f5_:=f3_.symm;clear f1_ f2_ f3_;subst f4_;subst f5_))
 refine hK.out _ _ ?_
 clear hK K
 refine norm_ (a':=?_) ?_ ?_
 rotate_left
 ·show Act.put _ (some 104) _=_
  simp only [Act.put,List.setIfInBounds_toArray,List.set_cons_zero,List.set_cons_succ,i64_w,i32_w]
  rfl
 refine pure_ (i:=8) (N:=some 105) (v:=?_) (a':=?_) #[true,true,true,true,true,true,true,true,true,false] rfl rfl (any_of HT_.out (by kernel_rfl)) (fun _ _ _ h=>h) (Or.inl ⟨by rfl,?_⟩) ?_ ?_
 rotate_left
 ·intro w'
  go_simp
  with_reducible rfl
 rotate_left
 ·simp only [Act.put,List.setIfInBounds_toArray,List.set_cons_zero,List.set_cons_succ,i64_w,i32_w]
  rfl
 refine last_ (i:=9) (N:=none) #[true,true,true,true,true,true,true,true,true,true] rfl rfl (one_of HT_.out (by kernel_rfl)) (by decide) (fun K hK=>?_)
 have hs75:w73.cell? ⟨gb834,3,none⟩=some (.slice Ao69 y838.length co69):=(zAB BK834.out 3).trans rfl
 have hfs75:=zAA BK834.out 3
 have hns75_0:=NB780_834.out
 have hns75_1:=NB781_834.out
 have hms75_0:=NB834_780.out
 have hms75_1:=NB834_781.out
 refine skip_ (w1:=?_) (by rfl) rfl ?_ ?_
 rotate_left
 ·go_simp
  rfl
 refine hK.out _ _ ?_
 clear hK K
 refine done_ (done_of HT_.out (by kernel_rfl)) ?_
 have hcz76_0:w73.cell? ⟨gb834,0,none⟩=some (.string a0_0):=(zAB BK834.out 0).trans rfl
 have hcz76_1:w73.cell? ⟨gb834,1,none⟩=some (.slice A0_1 l0_1.length c0_1):=(zAB BK834.out 1).trans rfl
 have hcz76_2:w73.cell? ⟨gb834,2,none⟩=some (.int .i64 a0_2):=(zAB BK834.out 2).trans rfl
 have hcz76_3:w73.cell? ⟨gb834,3,none⟩=some (.slice Ao69 y838.length co69):=(zAB BK834.out 3).trans rfl
 have hfz76_0:=zAA BK834.out 0
 have hfz76_1:=zAA BK834.out 1
 have hfz76_2:=zAA BK834.out 2
 have hfz76_3:=zAA BK834.out 3
 have H:=HX_.out
 clear HX_
 by_cases c55:((zAC y814 x14_2).f0)=8
 ·rw [if_pos c55] at H
  have c55b0:(((zAC y814 x14_2).f0) == 8)=true:=beq_iff_eq.mpr c55
  have c55b1:(((zAC y814 x14_2).f0) != 8)=false:=bne_eq_false_iff_eq.mpr c55
  clear c55
  have HC56:=aK_ H
  clear H
  go_upto_region 24 with (first|((with_reducible refine gate_callee (f:=33) rfl ?_);refine goesL_ (some 108) rfl rfl Tryd.func33 (by kernel_rfl) rfl #[.agg #[.string a0_0,.slice A0_1 l0_1.length c0_1,.int .i64 a0_2,.slice Ao74 y842.length co74]] rfl aM_ ?_;(with_reducible refine (zAG.calls k2 a0_0 _ _ l0_1 a0_2 _ _ y842 t845 t848 t849 _ ?side1 ?side2 ?side3 ?side4 ?side5 A54.out).mono ?_);(case side1=>(first|(with_reducible exact hG)|((repeat (with_reducible first|exact hG|apply GW.drewN|apply GW.drew|apply GW.alloc));done)|exact GW.below hG (aQ_ HB.out GE780.out GE781.out GE834.out)));(case side2=>exact Kd.C_below HR0_1.out (aQ_ HB.out GE780.out GE781.out GE834.out));(case side3=>exact HC0_1.out);(case side4=>refine (Kd.N_reads' (e:=33) (base:=w.heap.size) (ok:=fun k_=>(((P0_3_ k_∨P1_3_ k_)∨w.heap.size≤k_)∧(some k_≠(.slice Ao44 t783.length co44:Value).ownBlock∧(some k_≠(v812:Value).ownBlock∧(some k_≠(.slice (some ad841) y814.length co57:Value).ownBlock∧(k_≠gb780∧(k_≠gb781∧k_≠gb834))))))) (n:=y842.length) (c:=co74) ?_).2.2;exact (by refine aN_ ?_;exact (Kd.N_mono (Kd.N_far (p:=⟨gb834,3,none⟩) (Kd.N_mono HO844.out (fun k_ hk=>(⟨hk,hk.2.2.2.2.2.2⟩:_∧k_≠gb834))) (fun _ hk=>hk.2) (.slice Ao74 y842.length co74)) (fun _ h_=>h_.1))));(case side5=>exact (Kd.N_reads' HO844.out).2.1);rintro e w77 ⟨v846,rfl,ho0,hb⟩;refine ⟨_,rfl,?_⟩;have n0_:=aK_ (Kd.R_elder' (by refine aR_ ?_;exact (Kd.R_mono (Kd.R_far (p:=⟨gb834,3,none⟩) (Kd.R_types HO_5.out BK834.out (by decide)) (fun _ hk=>hk.2) (.slice Ao74 y842.length co74)) (fun _ h_=>h_.1))) (Kd.R_base ho0) hb);have n1_:=aK_ (Kd.N_elder' (by refine aN_ ?_;exact (Kd.N_mono (Kd.N_far (p:=⟨gb834,3,none⟩) (Kd.N_mono HO_11.out (fun k_ hk=>(⟨hk,hk.1.2.2.2.2.2.2⟩:_∧k_≠gb834))) (fun _ hk=>hk.2) (.slice Ao74 y842.length co74)) (fun _ h_=>h_.1))) (Kd.R_base ho0) hb);have n2_:=aK_ (Kd.R_elder' (by refine aR_ ?_;exact (Kd.R_mono (Kd.R_far (p:=⟨gb834,3,none⟩) (Kd.R_types HO_12.out BK834.out (by decide)) (fun _ hk=>hk.2) (.slice Ao74 y842.length co74)) (fun _ h_=>h_.1))) (Kd.R_base ho0) hb);have n3_:=aK_ (Kd.N_elder' (by refine aN_ ?_;exact (Kd.N_mono (Kd.N_far (p:=⟨gb834,3,none⟩) (Kd.N_mono HO_13.out (fun k_ hk=>(⟨hk,hk.1.2.2.2.2.2.2⟩:_∧k_≠gb834))) (fun _ hk=>hk.2) (.slice Ao74 y842.length co74)) (fun _ h_=>h_.1))) (Kd.R_base ho0) hb);have n4_:=aK_ (Kd.V_elder' (by refine aV_ ?_;exact (Kd.V_mono (Kd.V_far (p:=⟨gb834,3,none⟩) (Kd.V_mono HO_781003.out (fun k_ hk=>(⟨hk,hk.1.2.2.2.2.2.2.2⟩:_∧k_≠gb834))) (fun _ hk=>hk.2) (.slice Ao74 y842.length co74)) (fun _ h_=>h_.1))) (Kd.R_base ho0) hb);have n5_:=aK_ (Kd.V_elder' (by refine aV_ ?_;exact (Kd.V_mono (Kd.V_far (p:=⟨gb834,3,none⟩) (Kd.V_mono HO_782003.out (fun k_ hk=>(⟨hk,hk.1.2.2.2.2.2.2.2⟩:_∧k_≠gb834))) (fun _ hk=>hk.2) (.slice Ao74 y842.length co74)) (fun _ h_=>h_.1))) (Kd.R_base ho0) hb);have n6_:=aK_ (Kd.V_elder' (by refine aV_ ?_;exact (Kd.V_mono (Kd.V_far (p:=⟨gb834,3,none⟩) (Kd.V_mono HL841_4.out (fun k_ hk=>(⟨hk,hk.1.2.2.2.2.2.2.2⟩:_∧k_≠gb834))) (fun _ hk=>hk.2) (.slice Ao74 y842.length co74)) (fun _ h_=>h_.1))) (Kd.R_base ho0) hb);have n7_:=aK_ (Kd.N_elder' (by refine aN_ ?_;exact (Kd.N_mono (Kd.N_far (p:=⟨gb834,3,none⟩) (Kd.N_mono HO844.out (fun k_ hk=>(⟨hk,hk.2.2.2.2.2.2⟩:_∧k_≠gb834))) (fun _ hk=>hk.2) (.slice Ao74 y842.length co74)) (fun _ h_=>h_.1))) (Kd.R_base ho0) hb);have n8_:=aK_ (Kd.R_lower (Kd.R_new' (Kd.R_new' (Kd.R_newM (M:=fun k_=>(w.heap.size≤k_)) ho0 (zAE (aQ_ HB.out GE780.out GE781.out GE834.out)) (fun k_ h_=>h_)) (Kd.R_lt (by refine aR_ ?_;exact (Kd.R_mono (Kd.R_far (p:=⟨gb834,3,none⟩) (Kd.R_types HO_5.out BK834.out (by decide)) (fun _ hk=>hk.2) (.slice Ao74 y842.length co74)) (fun _ h_=>h_.1))))) (Kd.R_lt (by refine aR_ ?_;exact (Kd.R_mono (Kd.R_far (p:=⟨gb834,3,none⟩) (Kd.R_types HO_12.out BK834.out (by decide)) (fun _ hk=>hk.2) (.slice Ao74 y842.length co74)) (fun _ h_=>h_.1))))) (zAE (aQ_ HB.out GE780.out GE781.out GE834.out)));have n9_:=aK_ (zAN (g:=gb780) (o:=.cells #[.string a0_0,.slice A0_1 l0_1.length c0_1,.int .i64 a0_2,.slice A0_3 l0_3.length c0_3] 25 (0,0)) (by refine aB_ ?_;refine blk_far ?_ NB780_834.out _;refine aB_ ?_;exact BK780.out) hb);have n10_:=aK_ (zAN (g:=gb781) (o:=.cells #[.string a0_0,.slice A0_1 l0_1.length c0_1,.int .i64 a0_2,.slice A1_3 l1_3.length c1_3] 25 (0,0)) (by refine aB_ ?_;refine blk_far ?_ NB781_834.out _;refine aB_ ?_;exact BK781.out) hb);have n11_:=aK_ (zAN (g:=gb834) (o:=.cells #[.string a0_0,.slice A0_1 l0_1.length c0_1,.int .i64 a0_2,.slice Ao74 y842.length co74] 25 (0,0)) (by refine aB_ ?_;refine blk_put (cs:=#[.string a0_0,.slice A0_1 l0_1.length c0_1,.int .i64 a0_2,.slice Ao69 y838.length co69]) ?_ 3 _ rfl;refine aB_ ?_;exact BK834.out) hb);have n12_:=aK_ (zAH (aQ_ HB.out GE780.out GE781.out GE834.out) hb);clear HO_5;clear HO_11;clear HO_12;clear HO_13;clear HO_781003;clear HO_782003;clear HL841_4;clear HO844;clear BK780;clear BK781;clear BK834;clear HB;have HO_5:=n0_;have HO_11:=n1_;have HO_12:=n2_;have HO_13:=n3_;have HO_781003:=n4_;have HO_782003:=n5_;have HL841_4:=n6_;have HO844:=n7_;have HO847:=n8_;have BK780:=n9_;have BK781:=n10_;have BK834:=n11_;have HB:=n12_;clear n0_ n1_ n2_ n3_ n4_ n5_ n6_ n7_ n8_ n9_ n10_ n11_ n12_;(try clear hb);(try clear hb2);(try clear hk);(try clear hi);(try clear ho0);have p850:0≤(x14_2:Int):=aD_;have q850:x14_2<(y814.length:Int):=aD_;obtain ⟨ad850,A850_4,c850_4,e850,hx850_0,hx850_1,hx850_2,hx850_3,hx850_4,hx850_5,hl850_4,hi850_4⟩:=at_T33 (Kd.N_reads' HO_13.out).2.2 x14_2 p850 q850;obtain rfl:ad841=ad850:=(by injection e850);obtain ⟨ce850,hce850,hMe850,hcc850⟩:=Kd.N_get HO_13.out z33 x14_2 p850 (by first|exact q850|exact aD_|(have e_:=(Kd.N_reads' HO_13.out).1;omega));obtain ⟨ua850_4,uc850_4,rfl,ul850_4,ge850_4⟩:=k33_openF hMe850;have hv850_4:=hcc850 4 _ rfl;rw [add_field _ _ 4 (by omega)] at hv850_4;replace hv850_4:=Option.some.inj (hv850_4.symm.trans hx850_4);injection hv850_4 with hva_ hvn_ hvc_;rw [hva_] at ge850_4;rw [hvc_] at ul850_4;have HL850_4:=aK_ (show Kd.V k45 45 _ w.heap.size _ _ ((zAC y814 x14_2).f4) from Kd.V_mk ul850_4 ge850_4);clear hva_ hvn_ hvc_ ge850_4 ul850_4;clear hcc850 hce850;have HR850_4:=aK_ hi850_4;have HC850_4:=aK_ hl850_4;clear hi850_4 hl850_4;replace p850:=eq_true p850;replace q850:=eq_true q850))
  (try simp only [Act.put,List.setIfInBounds_toArray,List.set_cons_zero,List.set_cons_succ])
  go_cut [130] (fun v130 wc=>∃ (kq:Nat) (x130_55:Bool),v130 = .bool x130_55∧zAO (zAD.j2 kq t783 y799 y811 y814 x14_2 x130_55 a0_0 l0_1 a0_2 l0_3=some r)∧zAO (kq≤k2)∧zAO (Kd.R (Kd.int .i64) 3 wc w.heap.size (fun k_=>(w.heap.size≤k_)∧some k_≠(v812:Value).ownBlock) (.slice Ao44 t783.length co44) t783)∧zAO (Kd.N k33 33 wc w.heap.size (fun k_=>((P0_3_ k_∨P1_3_ k_)∨w.heap.size≤k_)∧some k_≠((.slice Ao44 t783.length co44):Value).ownBlock∧some k_≠(v812:Value).ownBlock∧some k_≠((.slice (some ad841) y814.length co57):Value).ownBlock∧some k_≠((.slice Ao74 y842.length co74):Value).ownBlock∧k_≠gb780∧k_≠gb781∧k_≠gb834) (.slice Ao68 y799.length co68) y799)∧zAO (Kd.R (Kd.int .i64) 3 wc w.heap.size (fun k_=>(w.heap.size≤k_)∧some k_≠((.slice Ao44 t783.length co44):Value).ownBlock) v812 y811)∧zAO (Kd.N k33 33 wc w.heap.size (fun k_=>((P0_3_ k_∨P1_3_ k_)∨w.heap.size≤k_)∧some k_≠((.slice Ao44 t783.length co44):Value).ownBlock∧some k_≠((.slice Ao68 y799.length co68):Value).ownBlock∧some k_≠(v812:Value).ownBlock∧some k_≠((.slice Ao74 y842.length co74):Value).ownBlock∧k_≠gb780∧k_≠gb781∧k_≠gb834) (.slice (some ad841) y814.length co57) y814)∧zAO (Kd.V k33 33 wc w.heap.size (fun k_=>((P0_3_ k_∨P1_3_ k_)∨w.heap.size≤k_)∧some k_≠((.slice Ao44 t783.length co44):Value).ownBlock∧some k_≠((.slice Ao68 y799.length co68):Value).ownBlock∧some k_≠(v812:Value).ownBlock∧some k_≠((.slice (some ad841) y814.length co57):Value).ownBlock∧some k_≠((.slice Ao74 y842.length co74):Value).ownBlock∧k_≠gb780∧k_≠gb781∧k_≠gb834) (.slice A0_3 l0_3.length c0_3) l0_3)∧zAO (Kd.V k33 33 wc w.heap.size (fun k_=>((P0_3_ k_∨P1_3_ k_)∨w.heap.size≤k_)∧some k_≠((.slice Ao44 t783.length co44):Value).ownBlock∧some k_≠((.slice Ao68 y799.length co68):Value).ownBlock∧some k_≠(v812:Value).ownBlock∧some k_≠((.slice (some ad841) y814.length co57):Value).ownBlock∧some k_≠((.slice Ao74 y842.length co74):Value).ownBlock∧k_≠gb780∧k_≠gb781∧k_≠gb834) (.slice A1_3 l1_3.length c1_3) l1_3)∧zAO (Kd.N k33 33 wc w.heap.size (fun k_=>((P0_3_ k_∨P1_3_ k_)∨w.heap.size≤k_)∧some k_≠((.slice Ao44 t783.length co44):Value).ownBlock∧some k_≠(v812:Value).ownBlock∧some k_≠((.slice (some ad841) y814.length co57):Value).ownBlock∧k_≠gb780∧k_≠gb781∧k_≠gb834) (.slice Ao74 y842.length co74) y842)∧zAO (wc.heap[gb780]?=some (.cells #[.string a0_0,(.slice A0_1 l0_1.length c0_1),.int .i64 a0_2,(.slice A0_3 l0_3.length c0_3)] 25 (0,0)))∧zAO (wc.heap[gb781]?=some (.cells #[.string a0_0,(.slice A0_1 l0_1.length c0_1),.int .i64 a0_2,(.slice A1_3 l1_3.length c1_3)] 25 (0,0)))∧zAO (wc.heap[gb834]?=some (.cells #[.string a0_0,(.slice A0_1 l0_1.length c0_1),.int .i64 a0_2,(.slice Ao74 y842.length co74)] 25 (0,0)))∧zAO (Kd.C k45 wc A850_4 ((zAC y814 x14_2).f4).length ((zAC y814 x14_2).f4))∧zAO (Below w.heap.size w wc))
  case first =>
   have H:=HC56.out
   clear HC56
   by_cases c78:t849=80
   rotate_left
   ·rw [if_neg c78] at H
    have c78b0:(t849 == 80)=false:=beq_eq_false_iff_ne.mpr c78
    have c78b1:(t849 != 80)=true:=bne_iff_ne.mpr c78
    (first|rw [c78b0]|(simp only [i64_w,i32_w];rw [c78b0])|skip)
    have H':=aK_ H
    clear H
    go_wp2
    go_meet
    case rel=>exact ⟨_,(true),aS2_,H',⟨by have:=HJ6.out;have:=HK2.out;first|omega|exact Nat.le_refl _⟩,⟨by refine aR_ ?_;exact Kd.R_mono HO_5.out (fun _ hk=>⟨hk.1.1,hk.1.2⟩)⟩,⟨by refine aN_ ?_;exact Kd.N_mono HO_11.out (fun _ hk=>⟨hk.1.1.1,⟨hk.1.1.2.1,⟨hk.1.1.2.2.1,⟨hk.1.1.2.2.2.1,⟨hk.1.2,⟨hk.1.1.2.2.2.2.1,⟨hk.1.1.2.2.2.2.2.1,hk.1.1.2.2.2.2.2.2⟩⟩⟩⟩⟩⟩⟩)⟩,⟨by refine aR_ ?_;exact Kd.R_mono HO_12.out (fun _ hk=>⟨hk.1.1,hk.1.2⟩)⟩,⟨by refine aN_ ?_;exact Kd.N_mono HO_13.out (fun _ hk=>⟨hk.1.1.1,⟨hk.1.1.2.1,⟨hk.1.1.2.2.1,⟨hk.1.1.2.2.2.1,⟨hk.1.2,⟨hk.1.1.2.2.2.2.1,⟨hk.1.1.2.2.2.2.2.1,hk.1.1.2.2.2.2.2.2⟩⟩⟩⟩⟩⟩⟩)⟩,⟨by refine aV_ ?_;exact Kd.V_mono HO_781003.out (fun _ hk=>⟨hk.1.1.1,⟨hk.1.1.2.1,⟨hk.1.1.2.2.1,⟨hk.1.1.2.2.2.1,⟨hk.1.1.2.2.2.2.1,⟨hk.1.2,⟨hk.1.1.2.2.2.2.2.1,⟨hk.1.1.2.2.2.2.2.2.1,hk.1.1.2.2.2.2.2.2.2⟩⟩⟩⟩⟩⟩⟩⟩)⟩,⟨by refine aV_ ?_;exact Kd.V_mono HO_782003.out (fun _ hk=>⟨hk.1.1.1,⟨hk.1.1.2.1,⟨hk.1.1.2.2.1,⟨hk.1.1.2.2.2.1,⟨hk.1.1.2.2.2.2.1,⟨hk.1.2,⟨hk.1.1.2.2.2.2.2.1,⟨hk.1.1.2.2.2.2.2.2.1,hk.1.1.2.2.2.2.2.2.2⟩⟩⟩⟩⟩⟩⟩⟩)⟩,⟨by refine aN_ ?_;exact Kd.N_mono HO844.out (fun _ hk=>⟨hk.1.1,⟨hk.1.2.1,⟨hk.1.2.2.1,⟨hk.1.2.2.2.1,⟨hk.1.2.2.2.2.1,⟨hk.1.2.2.2.2.2.1,hk.1.2.2.2.2.2.2⟩⟩⟩⟩⟩⟩)⟩,⟨aB_ BK780.out⟩,⟨aB_ BK781.out⟩,⟨aB_ BK834.out⟩,⟨by repeat (first|(with_reducible exact HR850_4.out)|(with_reducible refine Kd.C_alloc ?_ _)|(with_reducible refine Kd.C_drewN ?_ _)|(with_reducible refine Kd.C_drew ?_)|exact HR850_4.out)⟩,⟨aQ_ HB.out GE780.out GE781.out GE834.out⟩⟩
   rw [if_pos c78] at H
   have c78b0:(t849 == 80)=true:=beq_iff_eq.mpr c78
   have c78b1:(t849 != 80)=false:=bne_eq_false_iff_eq.mpr c78
   clear c78
   (first|rw [c78b0]|(simp only [i64_w,i32_w];rw [c78b0])|skip)
   by_cases c79:t848=(y799.length:Int)
   rotate_left
   ·rw [if_neg c79] at H
    have c79b0:(t848 == (y799.length:Int))=false:=beq_eq_false_iff_ne.mpr c79
    have c79b1:(t848 != (y799.length:Int))=true:=bne_iff_ne.mpr c79
    have H':=aK_ H
    clear H
    go_wp2
    go_meet
    case rel=>exact ⟨_,(true),aS2_,H',⟨by have:=HJ6.out;have:=HK2.out;first|omega|exact Nat.le_refl _⟩,⟨by refine aR_ ?_;exact Kd.R_mono HO_5.out (fun _ hk=>⟨hk.1.1,hk.1.2⟩)⟩,⟨by refine aN_ ?_;exact Kd.N_mono HO_11.out (fun _ hk=>⟨hk.1.1.1,⟨hk.1.1.2.1,⟨hk.1.1.2.2.1,⟨hk.1.1.2.2.2.1,⟨hk.1.2,⟨hk.1.1.2.2.2.2.1,⟨hk.1.1.2.2.2.2.2.1,hk.1.1.2.2.2.2.2.2⟩⟩⟩⟩⟩⟩⟩)⟩,⟨by refine aR_ ?_;exact Kd.R_mono HO_12.out (fun _ hk=>⟨hk.1.1,hk.1.2⟩)⟩,⟨by refine aN_ ?_;exact Kd.N_mono HO_13.out (fun _ hk=>⟨hk.1.1.1,⟨hk.1.1.2.1,⟨hk.1.1.2.2.1,⟨hk.1.1.2.2.2.1,⟨hk.1.2,⟨hk.1.1.2.2.2.2.1,⟨hk.1.1.2.2.2.2.2.1,hk.1.1.2.2.2.2.2.2⟩⟩⟩⟩⟩⟩⟩)⟩,⟨by refine aV_ ?_;exact Kd.V_mono HO_781003.out (fun _ hk=>⟨hk.1.1.1,⟨hk.1.1.2.1,⟨hk.1.1.2.2.1,⟨hk.1.1.2.2.2.1,⟨hk.1.1.2.2.2.2.1,⟨hk.1.2,⟨hk.1.1.2.2.2.2.2.1,⟨hk.1.1.2.2.2.2.2.2.1,hk.1.1.2.2.2.2.2.2.2⟩⟩⟩⟩⟩⟩⟩⟩)⟩,⟨by refine aV_ ?_;exact Kd.V_mono HO_782003.out (fun _ hk=>⟨hk.1.1.1,⟨hk.1.1.2.1,⟨hk.1.1.2.2.1,⟨hk.1.1.2.2.2.1,⟨hk.1.1.2.2.2.2.1,⟨hk.1.2,⟨hk.1.1.2.2.2.2.2.1,⟨hk.1.1.2.2.2.2.2.2.1,hk.1.1.2.2.2.2.2.2.2⟩⟩⟩⟩⟩⟩⟩⟩)⟩,⟨by refine aN_ ?_;exact Kd.N_mono HO844.out (fun _ hk=>⟨hk.1.1,⟨hk.1.2.1,⟨hk.1.2.2.1,⟨hk.1.2.2.2.1,⟨hk.1.2.2.2.2.1,⟨hk.1.2.2.2.2.2.1,hk.1.2.2.2.2.2.2⟩⟩⟩⟩⟩⟩)⟩,⟨aB_ BK780.out⟩,⟨aB_ BK781.out⟩,⟨aB_ BK834.out⟩,⟨by repeat (first|(with_reducible exact HR850_4.out)|(with_reducible refine Kd.C_alloc ?_ _)|(with_reducible refine Kd.C_drewN ?_ _)|(with_reducible refine Kd.C_drew ?_)|exact HR850_4.out)⟩,⟨aQ_ HB.out GE780.out GE781.out GE834.out⟩⟩
   rw [if_pos c79] at H
   have c79b0:(t848 == (y799.length:Int))=true:=beq_iff_eq.mpr c79
   have c79b1:(t848 != (y799.length:Int))=false:=bne_eq_false_iff_eq.mpr c79
   clear c79
   have H':=aK_ H
   clear H
   obtain ⟨Ao80,co80,eo80⟩:=Kd.R_slice HO847.out
   subst eo80
   go_wp2
   go_meet
   case rel=>exact ⟨_,(((t845.length:Int) != 0)),aS2_,H',⟨by have:=HJ6.out;have:=HK2.out;first|omega|exact Nat.le_refl _⟩,⟨by refine aR_ ?_;exact Kd.R_mono HO_5.out (fun _ hk=>⟨hk.1.1,hk.1.2⟩)⟩,⟨by refine aN_ ?_;exact Kd.N_mono HO_11.out (fun _ hk=>⟨hk.1.1.1,⟨hk.1.1.2.1,⟨hk.1.1.2.2.1,⟨hk.1.1.2.2.2.1,⟨hk.1.2,⟨hk.1.1.2.2.2.2.1,⟨hk.1.1.2.2.2.2.2.1,hk.1.1.2.2.2.2.2.2⟩⟩⟩⟩⟩⟩⟩)⟩,⟨by refine aR_ ?_;exact Kd.R_mono HO_12.out (fun _ hk=>⟨hk.1.1,hk.1.2⟩)⟩,⟨by refine aN_ ?_;exact Kd.N_mono HO_13.out (fun _ hk=>⟨hk.1.1.1,⟨hk.1.1.2.1,⟨hk.1.1.2.2.1,⟨hk.1.1.2.2.2.1,⟨hk.1.2,⟨hk.1.1.2.2.2.2.1,⟨hk.1.1.2.2.2.2.2.1,hk.1.1.2.2.2.2.2.2⟩⟩⟩⟩⟩⟩⟩)⟩,⟨by refine aV_ ?_;exact Kd.V_mono HO_781003.out (fun _ hk=>⟨hk.1.1.1,⟨hk.1.1.2.1,⟨hk.1.1.2.2.1,⟨hk.1.1.2.2.2.1,⟨hk.1.1.2.2.2.2.1,⟨hk.1.2,⟨hk.1.1.2.2.2.2.2.1,⟨hk.1.1.2.2.2.2.2.2.1,hk.1.1.2.2.2.2.2.2.2⟩⟩⟩⟩⟩⟩⟩⟩)⟩,⟨by refine aV_ ?_;exact Kd.V_mono HO_782003.out (fun _ hk=>⟨hk.1.1.1,⟨hk.1.1.2.1,⟨hk.1.1.2.2.1,⟨hk.1.1.2.2.2.1,⟨hk.1.1.2.2.2.2.1,⟨hk.1.2,⟨hk.1.1.2.2.2.2.2.1,⟨hk.1.1.2.2.2.2.2.2.1,hk.1.1.2.2.2.2.2.2.2⟩⟩⟩⟩⟩⟩⟩⟩)⟩,⟨by refine aN_ ?_;exact Kd.N_mono HO844.out (fun _ hk=>⟨hk.1.1,⟨hk.1.2.1,⟨hk.1.2.2.1,⟨hk.1.2.2.2.1,⟨hk.1.2.2.2.2.1,⟨hk.1.2.2.2.2.2.1,hk.1.2.2.2.2.2.2⟩⟩⟩⟩⟩⟩)⟩,⟨aB_ BK780.out⟩,⟨aB_ BK781.out⟩,⟨aB_ BK834.out⟩,⟨by repeat (first|(with_reducible exact HR850_4.out)|(with_reducible refine Kd.C_alloc ?_ _)|(with_reducible refine Kd.C_drewN ?_ _)|(with_reducible refine Kd.C_drew ?_)|exact HR850_4.out)⟩,⟨aQ_ HB.out GE780.out GE781.out GE834.out⟩⟩
  clear HC56
  try clear c1
  try clear c2
  try clear p2
  try clear c3
  try clear c4
  try clear c5
  try clear c6
  try clear p6
  try clear c7
  try clear c8
  try clear p8
  try clear q8
  try clear hx8
  try clear c11
  try clear c12
  try clear c23
  try clear c23b0
  try clear c23b1
  try clear c24
  try clear c24b0
  try clear c24b1
  try clear c25
  try clear c28
  try clear c29
  try clear c30
  try clear c31
  try clear c32
  try clear c33
  try clear c36
  try clear c50
  try clear c50b0
  try clear c51
  try clear c52
  try clear c52b0
  try clear c53
  try clear c55
  try clear c55b0
  try clear c55b1
  try clear c58
  try clear c61
  try clear c62
  try clear p64
  try clear c78
  try clear c78b0
  try clear c78b1
  try clear c79
  try clear c79b0
  try clear c79b1
  try clear hcz12_0
  try clear hcz12_1
  try clear hcz12_2
  try clear hcz12_3
  try clear hcz13_0
  try clear hcz13_1
  try clear hcz13_2
  try clear hcz13_3
  try clear hcz15_0
  try clear hcz15_1
  try clear hcz15_2
  try clear hcz15_3
  try clear hcz16_0
  try clear hcz16_1
  try clear hcz16_2
  try clear hcz16_3
  try clear hcz18_0
  try clear hcz18_1
  try clear hcz18_2
  try clear hcz18_3
  try clear hcz19_0
  try clear hcz19_1
  try clear hcz19_2
  try clear hcz19_3
  try clear hcz21_0
  try clear hcz21_1
  try clear hcz21_2
  try clear hcz21_3
  try clear hcz26_0
  try clear hcz26_1
  try clear hcz26_2
  try clear hcz26_3
  try clear hcz27_0
  try clear hcz27_1
  try clear hcz27_2
  try clear hcz27_3
  try clear hcz37_0
  try clear hcz37_1
  try clear hcz37_2
  try clear hcz37_3
  try clear hcz39_0
  try clear hcz39_1
  try clear hcz39_2
  try clear hcz39_3
  try clear hcz59_0
  try clear hcz59_1
  try clear hcz59_2
  try clear hcz59_3
  try clear hcz63_0
  try clear hcz63_1
  try clear hcz63_2
  try clear hcz63_3
  try clear hcz70_0
  try clear hcz70_1
  try clear hcz70_2
  try clear hcz70_3
  try clear hcz76_0
  try clear hcz76_1
  try clear hcz76_2
  try clear hcz76_3
  try clear hfz12_0
  try clear hfz12_1
  try clear hfz12_2
  try clear hfz12_3
  try clear hfz13_0
  try clear hfz13_1
  try clear hfz13_2
  try clear hfz13_3
  try clear hfz15_0
  try clear hfz15_1
  try clear hfz15_2
  try clear hfz15_3
  try clear hfz16_0
  try clear hfz16_1
  try clear hfz16_2
  try clear hfz16_3
  try clear hfz18_0
  try clear hfz18_1
  try clear hfz18_2
  try clear hfz18_3
  try clear hfz19_0
  try clear hfz19_1
  try clear hfz19_2
  try clear hfz19_3
  try clear hfz21_0
  try clear hfz21_1
  try clear hfz21_2
  try clear hfz21_3
  try clear hfz26_0
  try clear hfz26_1
  try clear hfz26_2
  try clear hfz26_3
  try clear hfz27_0
  try clear hfz27_1
  try clear hfz27_2
  try clear hfz27_3
  try clear hfz37_0
  try clear hfz37_1
  try clear hfz37_2
  try clear hfz37_3
  try clear hfz39_0
  try clear hfz39_1
  try clear hfz39_2
  try clear hfz39_3
  try clear hfz59_0
  try clear hfz59_1
  try clear hfz59_2
  try clear hfz59_3
  try clear hfz63_0
  try clear hfz63_1
  try clear hfz63_2
  try clear hfz63_3
  try clear hfz70_0
  try clear hfz70_1
  try clear hfz70_2
  try clear hfz70_3
  try clear hfz76_0
  try clear hfz76_1
  try clear hfz76_2
  try clear hfz76_3
  try clear hx841_0
  try clear hx841_1
  try clear hx841_2
  try clear hx841_3
  try clear hx841_4
  try clear hx841_5
  try clear hx850_0
  try clear hx850_1
  try clear hx850_2
  try clear hx850_3
  try clear hx850_4
  try clear hx850_5
  try clear p2
  try clear p6
  try clear p841
  try clear p850
  try clear q841
  try clear q850
  obtain ⟨kq,x130_55,rfl,HA,HJ55,HO_5,HO_11,HO_12,HO_13,HO_781003,HO_782003,HO_835003,BK780,BK781,BK834,HR850_4,HB⟩:=hcut
  cases kq with
  |zero=>exact absurd HA.out (by simp [zAD.j2])
  |succ kj55=>?_
  have H:=HA.out
  clear HA
  simp only [zAD.j2] at H
  by_cases c81:x130_55=true
  ·subst c81
   have H1:(some false)=some r:=by rw [if_pos rfl] at H;exact H
   clear H
   have H:=H1
   clear H1
   obtain rfl:=Option.some.inj H
   go_wp2
   go_ret
   exact ⟨by first|rfl|(simp [zAL,zAK] <;> rfl)|(simp [*,zAL,zAK] <;> rfl),aQ_ HB.out GE780.out GE781.out GE834.out⟩
  replace c81:=Bool.eq_false_iff.mpr c81
  subst c81
  have H1:(zAD.l0 kj55 t783 y799 y811 y814 (wrap64 (x14_2+1)) a0_0 l0_1 a0_2 l0_3)=some r:=by rw [if_neg (show ¬ (false=true) by decide)] at H;exact H
  clear H
  have H:=H1
  clear H1
  have H':=aK_ H
  clear H
  go_wp2
  go_roundg kj55
  case measure=>have:=HJ6.out;have:=HK2.out;have:=HJ55.out;omega
  case rel=>exact ⟨(wrap64 (x14_2+1)),aS2_,H',⟨by have:=HJ6.out;have:=HK2.out;have:=HJ55.out;omega⟩,⟨aR_ HO_5.out⟩,⟨by refine aN_ ?_;exact Kd.N_mono HO_11.out (fun _ hk=>⟨hk.1,⟨hk.2.1,⟨hk.2.2.1,⟨hk.2.2.2.1,⟨hk.2.2.2.2.2.1,hk.2.2.2.2.2.2.1⟩⟩⟩⟩⟩)⟩,⟨aR_ HO_12.out⟩,⟨by refine aN_ ?_;exact Kd.N_mono HO_13.out (fun _ hk=>⟨hk.1,⟨hk.2.1,⟨hk.2.2.1,⟨hk.2.2.2.1,⟨hk.2.2.2.2.2.1,hk.2.2.2.2.2.2.1⟩⟩⟩⟩⟩)⟩,⟨by refine aV_ ?_;exact Kd.V_mono HO_781003.out (fun _ hk=>⟨hk.1,⟨hk.2.1,⟨hk.2.2.1,⟨hk.2.2.2.1,⟨hk.2.2.2.2.1,⟨hk.2.2.2.2.2.2.1,hk.2.2.2.2.2.2.2.1⟩⟩⟩⟩⟩⟩)⟩,⟨by refine aV_ ?_;exact Kd.V_mono HO_782003.out (fun _ hk=>⟨hk.1,⟨hk.2.1,⟨hk.2.2.1,⟨hk.2.2.2.1,⟨hk.2.2.2.2.1,⟨hk.2.2.2.2.2.2.1,hk.2.2.2.2.2.2.2.1⟩⟩⟩⟩⟩⟩)⟩,⟨aB_ BK780.out⟩,⟨aB_ BK781.out⟩,⟨aQ_ HB.out GE780.out GE781.out GE834.out⟩⟩
 rw [if_neg c55] at H
 have c55b0:(((zAC y814 x14_2).f0) == 8)=false:=beq_eq_false_iff_ne.mpr c55
 have c55b1:(((zAC y814 x14_2).f0) != 8)=true:=bne_iff_ne.mpr c55
 by_cases c82:t849=0
 rotate_left
 ·rw [if_neg c82] at H
  have c82b0:(t849 == 0)=false:=beq_eq_false_iff_ne.mpr c82
  have c82b1:(t849 != 0)=true:=bne_iff_ne.mpr c82
  obtain rfl:=Option.some.inj H
  try go_wp2_with (first|((with_reducible refine gate_callee (f:=33) rfl ?_);refine goesL_ (some 108) rfl rfl Tryd.func33 (by kernel_rfl) rfl #[.agg #[.string a0_0,.slice A0_1 l0_1.length c0_1,.int .i64 a0_2,.slice Ao74 y842.length co74]] rfl aM_ ?_;(with_reducible refine (zAG.calls k2 a0_0 _ _ l0_1 a0_2 _ _ y842 t845 t848 t849 _ ?side1 ?side2 ?side3 ?side4 ?side5 A54.out).mono ?_);(case side1=>(first|(with_reducible exact hG)|((repeat (with_reducible first|exact hG|apply GW.drewN|apply GW.drew|apply GW.alloc));done)|exact GW.below hG (aQ_ HB.out GE780.out GE781.out GE834.out)));(case side2=>exact Kd.C_below HR0_1.out (aQ_ HB.out GE780.out GE781.out GE834.out));(case side3=>exact HC0_1.out);(case side4=>refine (Kd.N_reads' (e:=33) (base:=w.heap.size) (ok:=fun k_=>(((P0_3_ k_∨P1_3_ k_)∨w.heap.size≤k_)∧(some k_≠(.slice Ao44 t783.length co44:Value).ownBlock∧(some k_≠(v812:Value).ownBlock∧(some k_≠(.slice (some ad841) y814.length co57:Value).ownBlock∧(k_≠gb780∧(k_≠gb781∧k_≠gb834))))))) (n:=y842.length) (c:=co74) ?_).2.2;exact (by refine aN_ ?_;exact (Kd.N_mono (Kd.N_far (p:=⟨gb834,3,none⟩) (Kd.N_mono HO844.out (fun k_ hk=>(⟨hk,hk.2.2.2.2.2.2⟩:_∧k_≠gb834))) (fun _ hk=>hk.2) (.slice Ao74 y842.length co74)) (fun _ h_=>h_.1))));(case side5=>exact (Kd.N_reads' HO844.out).2.1);rintro e w173 ⟨v846,rfl,ho0,hb⟩;refine ⟨_,rfl,?_⟩;have n0_:=aK_ (Kd.R_elder' (by refine aR_ ?_;exact (Kd.R_mono (Kd.R_far (p:=⟨gb834,3,none⟩) (Kd.R_types HO_5.out BK834.out (by decide)) (fun _ hk=>hk.2) (.slice Ao74 y842.length co74)) (fun _ h_=>h_.1))) (Kd.R_base ho0) hb);have n1_:=aK_ (Kd.N_elder' (by refine aN_ ?_;exact (Kd.N_mono (Kd.N_far (p:=⟨gb834,3,none⟩) (Kd.N_mono HO_11.out (fun k_ hk=>(⟨hk,hk.1.2.2.2.2.2.2⟩:_∧k_≠gb834))) (fun _ hk=>hk.2) (.slice Ao74 y842.length co74)) (fun _ h_=>h_.1))) (Kd.R_base ho0) hb);have n2_:=aK_ (Kd.R_elder' (by refine aR_ ?_;exact (Kd.R_mono (Kd.R_far (p:=⟨gb834,3,none⟩) (Kd.R_types HO_12.out BK834.out (by decide)) (fun _ hk=>hk.2) (.slice Ao74 y842.length co74)) (fun _ h_=>h_.1))) (Kd.R_base ho0) hb);have n3_:=aK_ (Kd.N_elder' (by refine aN_ ?_;exact (Kd.N_mono (Kd.N_far (p:=⟨gb834,3,none⟩) (Kd.N_mono HO_13.out (fun k_ hk=>(⟨hk,hk.1.2.2.2.2.2.2⟩:_∧k_≠gb834))) (fun _ hk=>hk.2) (.slice Ao74 y842.length co74)) (fun _ h_=>h_.1))) (Kd.R_base ho0) hb);have n4_:=aK_ (Kd.V_elder' (by refine aV_ ?_;exact (Kd.V_mono (Kd.V_far (p:=⟨gb834,3,none⟩) (Kd.V_mono HO_781003.out (fun k_ hk=>(⟨hk,hk.1.2.2.2.2.2.2.2⟩:_∧k_≠gb834))) (fun _ hk=>hk.2) (.slice Ao74 y842.length co74)) (fun _ h_=>h_.1))) (Kd.R_base ho0) hb);have n5_:=aK_ (Kd.V_elder' (by refine aV_ ?_;exact (Kd.V_mono (Kd.V_far (p:=⟨gb834,3,none⟩) (Kd.V_mono HO_782003.out (fun k_ hk=>(⟨hk,hk.1.2.2.2.2.2.2.2⟩:_∧k_≠gb834))) (fun _ hk=>hk.2) (.slice Ao74 y842.length co74)) (fun _ h_=>h_.1))) (Kd.R_base ho0) hb);have n6_:=aK_ (Kd.V_elder' (by refine aV_ ?_;exact (Kd.V_mono (Kd.V_far (p:=⟨gb834,3,none⟩) (Kd.V_mono HL841_4.out (fun k_ hk=>(⟨hk,hk.1.2.2.2.2.2.2.2⟩:_∧k_≠gb834))) (fun _ hk=>hk.2) (.slice Ao74 y842.length co74)) (fun _ h_=>h_.1))) (Kd.R_base ho0) hb);have n7_:=aK_ (Kd.N_elder' (by refine aN_ ?_;exact (Kd.N_mono (Kd.N_far (p:=⟨gb834,3,none⟩) (Kd.N_mono HO844.out (fun k_ hk=>(⟨hk,hk.2.2.2.2.2.2⟩:_∧k_≠gb834))) (fun _ hk=>hk.2) (.slice Ao74 y842.length co74)) (fun _ h_=>h_.1))) (Kd.R_base ho0) hb);have n8_:=aK_ (Kd.R_lower (Kd.R_new' (Kd.R_new' (Kd.R_newM (M:=fun k_=>(w.heap.size≤k_)) ho0 (zAE (aQ_ HB.out GE780.out GE781.out GE834.out)) (fun k_ h_=>h_)) (Kd.R_lt (by refine aR_ ?_;exact (Kd.R_mono (Kd.R_far (p:=⟨gb834,3,none⟩) (Kd.R_types HO_5.out BK834.out (by decide)) (fun _ hk=>hk.2) (.slice Ao74 y842.length co74)) (fun _ h_=>h_.1))))) (Kd.R_lt (by refine aR_ ?_;exact (Kd.R_mono (Kd.R_far (p:=⟨gb834,3,none⟩) (Kd.R_types HO_12.out BK834.out (by decide)) (fun _ hk=>hk.2) (.slice Ao74 y842.length co74)) (fun _ h_=>h_.1))))) (zAE (aQ_ HB.out GE780.out GE781.out GE834.out)));have n9_:=aK_ (zAN (g:=gb780) (o:=.cells #[.string a0_0,.slice A0_1 l0_1.length c0_1,.int .i64 a0_2,.slice A0_3 l0_3.length c0_3] 25 (0,0)) (by refine aB_ ?_;refine blk_far ?_ NB780_834.out _;refine aB_ ?_;exact BK780.out) hb);have n10_:=aK_ (zAN (g:=gb781) (o:=.cells #[.string a0_0,.slice A0_1 l0_1.length c0_1,.int .i64 a0_2,.slice A1_3 l1_3.length c1_3] 25 (0,0)) (by refine aB_ ?_;refine blk_far ?_ NB781_834.out _;refine aB_ ?_;exact BK781.out) hb);have n11_:=aK_ (zAN (g:=gb834) (o:=.cells #[.string a0_0,.slice A0_1 l0_1.length c0_1,.int .i64 a0_2,.slice Ao74 y842.length co74] 25 (0,0)) (by refine aB_ ?_;refine blk_put (cs:=#[.string a0_0,.slice A0_1 l0_1.length c0_1,.int .i64 a0_2,.slice Ao69 y838.length co69]) ?_ 3 _ rfl;refine aB_ ?_;exact BK834.out) hb);have n12_:=aK_ (zAH (aQ_ HB.out GE780.out GE781.out GE834.out) hb);clear HO_5;clear HO_11;clear HO_12;clear HO_13;clear HO_781003;clear HO_782003;clear HL841_4;clear HO844;clear BK780;clear BK781;clear BK834;clear HB;have HO_5:=n0_;have HO_11:=n1_;have HO_12:=n2_;have HO_13:=n3_;have HO_781003:=n4_;have HO_782003:=n5_;have HL841_4:=n6_;have HO844:=n7_;have HO847:=n8_;have BK780:=n9_;have BK781:=n10_;have BK834:=n11_;have HB:=n12_;clear n0_ n1_ n2_ n3_ n4_ n5_ n6_ n7_ n8_ n9_ n10_ n11_ n12_;(try clear hb);(try clear hb2);(try clear hk);(try clear hi);(try clear ho0);have p850:0≤(x14_2:Int):=aD_;have q850:x14_2<(y814.length:Int):=aD_;obtain ⟨ad850,A850_4,c850_4,e850,hx850_0,hx850_1,hx850_2,hx850_3,hx850_4,hx850_5,hl850_4,hi850_4⟩:=at_T33 (Kd.N_reads' HO_13.out).2.2 x14_2 p850 q850;obtain rfl:ad841=ad850:=(by injection e850);obtain ⟨ce850,hce850,hMe850,hcc850⟩:=Kd.N_get HO_13.out z33 x14_2 p850 (by first|exact q850|exact aD_|(have e_:=(Kd.N_reads' HO_13.out).1;omega));obtain ⟨ua850_4,uc850_4,rfl,ul850_4,ge850_4⟩:=k33_openF hMe850;have hv850_4:=hcc850 4 _ rfl;rw [add_field _ _ 4 (by omega)] at hv850_4;replace hv850_4:=Option.some.inj (hv850_4.symm.trans hx850_4);injection hv850_4 with hva_ hvn_ hvc_;rw [hva_] at ge850_4;rw [hvc_] at ul850_4;have HL850_4:=aK_ (show Kd.V k45 45 _ w.heap.size _ _ ((zAC y814 x14_2).f4) from Kd.V_mk ul850_4 ge850_4);clear hva_ hvn_ hvc_ ge850_4 ul850_4;clear hcc850 hce850;have HR850_4:=aK_ hi850_4;have HC850_4:=aK_ hl850_4;clear hi850_4 hl850_4;replace p850:=eq_true p850;replace q850:=eq_true q850))
  go_ret
  exact ⟨by first|rfl|(simp [zAL,zAK] <;> rfl)|(simp [*,zAL,zAK] <;> rfl),aQ_ HB.out GE780.out GE781.out GE834.out⟩
 rw [if_pos c82] at H
 have c82b0:(t849 == 0)=true:=beq_iff_eq.mpr c82
 have c82b1:(t849 != 0)=false:=bne_eq_false_iff_eq.mpr c82
 clear c82
 by_cases c83:t848=0
 rotate_left
 ·rw [if_neg c83] at H
  have c83b0:(t848 == 0)=false:=beq_eq_false_iff_ne.mpr c83
  have c83b1:(t848 != 0)=true:=bne_iff_ne.mpr c83
  obtain rfl:=Option.some.inj H
  try go_wp2_with (first|((with_reducible refine gate_callee (f:=33) rfl ?_);refine goesL_ (some 108) rfl rfl Tryd.func33 (by kernel_rfl) rfl #[.agg #[.string a0_0,.slice A0_1 l0_1.length c0_1,.int .i64 a0_2,.slice Ao74 y842.length co74]] rfl aM_ ?_;(with_reducible refine (zAG.calls k2 a0_0 _ _ l0_1 a0_2 _ _ y842 t845 t848 t849 _ ?side1 ?side2 ?side3 ?side4 ?side5 A54.out).mono ?_);(case side1=>(first|(with_reducible exact hG)|((repeat (with_reducible first|exact hG|apply GW.drewN|apply GW.drew|apply GW.alloc));done)|exact GW.below hG (aQ_ HB.out GE780.out GE781.out GE834.out)));(case side2=>exact Kd.C_below HR0_1.out (aQ_ HB.out GE780.out GE781.out GE834.out));(case side3=>exact HC0_1.out);(case side4=>refine (Kd.N_reads' (e:=33) (base:=w.heap.size) (ok:=fun k_=>(((P0_3_ k_∨P1_3_ k_)∨w.heap.size≤k_)∧(some k_≠(.slice Ao44 t783.length co44:Value).ownBlock∧(some k_≠(v812:Value).ownBlock∧(some k_≠(.slice (some ad841) y814.length co57:Value).ownBlock∧(k_≠gb780∧(k_≠gb781∧k_≠gb834))))))) (n:=y842.length) (c:=co74) ?_).2.2;exact (by refine aN_ ?_;exact (Kd.N_mono (Kd.N_far (p:=⟨gb834,3,none⟩) (Kd.N_mono HO844.out (fun k_ hk=>(⟨hk,hk.2.2.2.2.2.2⟩:_∧k_≠gb834))) (fun _ hk=>hk.2) (.slice Ao74 y842.length co74)) (fun _ h_=>h_.1))));(case side5=>exact (Kd.N_reads' HO844.out).2.1);rintro e w152 ⟨v846,rfl,ho0,hb⟩;refine ⟨_,rfl,?_⟩;have n0_:=aK_ (Kd.R_elder' (by refine aR_ ?_;exact (Kd.R_mono (Kd.R_far (p:=⟨gb834,3,none⟩) (Kd.R_types HO_5.out BK834.out (by decide)) (fun _ hk=>hk.2) (.slice Ao74 y842.length co74)) (fun _ h_=>h_.1))) (Kd.R_base ho0) hb);have n1_:=aK_ (Kd.N_elder' (by refine aN_ ?_;exact (Kd.N_mono (Kd.N_far (p:=⟨gb834,3,none⟩) (Kd.N_mono HO_11.out (fun k_ hk=>(⟨hk,hk.1.2.2.2.2.2.2⟩:_∧k_≠gb834))) (fun _ hk=>hk.2) (.slice Ao74 y842.length co74)) (fun _ h_=>h_.1))) (Kd.R_base ho0) hb);have n2_:=aK_ (Kd.R_elder' (by refine aR_ ?_;exact (Kd.R_mono (Kd.R_far (p:=⟨gb834,3,none⟩) (Kd.R_types HO_12.out BK834.out (by decide)) (fun _ hk=>hk.2) (.slice Ao74 y842.length co74)) (fun _ h_=>h_.1))) (Kd.R_base ho0) hb);have n3_:=aK_ (Kd.N_elder' (by refine aN_ ?_;exact (Kd.N_mono (Kd.N_far (p:=⟨gb834,3,none⟩) (Kd.N_mono HO_13.out (fun k_ hk=>(⟨hk,hk.1.2.2.2.2.2.2⟩:_∧k_≠gb834))) (fun _ hk=>hk.2) (.slice Ao74 y842.length co74)) (fun _ h_=>h_.1))) (Kd.R_base ho0) hb);have n4_:=aK_ (Kd.V_elder' (by refine aV_ ?_;exact (Kd.V_mono (Kd.V_far (p:=⟨gb834,3,none⟩) (Kd.V_mono HO_781003.out (fun k_ hk=>(⟨hk,hk.1.2.2.2.2.2.2.2⟩:_∧k_≠gb834))) (fun _ hk=>hk.2) (.slice Ao74 y842.length co74)) (fun _ h_=>h_.1))) (Kd.R_base ho0) hb);have n5_:=aK_ (Kd.V_elder' (by refine aV_ ?_;exact (Kd.V_mono (Kd.V_far (p:=⟨gb834,3,none⟩) (Kd.V_mono HO_782003.out (fun k_ hk=>(⟨hk,hk.1.2.2.2.2.2.2.2⟩:_∧k_≠gb834))) (fun _ hk=>hk.2) (.slice Ao74 y842.length co74)) (fun _ h_=>h_.1))) (Kd.R_base ho0) hb);have n6_:=aK_ (Kd.V_elder' (by refine aV_ ?_;exact (Kd.V_mono (Kd.V_far (p:=⟨gb834,3,none⟩) (Kd.V_mono HL841_4.out (fun k_ hk=>(⟨hk,hk.1.2.2.2.2.2.2.2⟩:_∧k_≠gb834))) (fun _ hk=>hk.2) (.slice Ao74 y842.length co74)) (fun _ h_=>h_.1))) (Kd.R_base ho0) hb);have n7_:=aK_ (Kd.N_elder' (by refine aN_ ?_;exact (Kd.N_mono (Kd.N_far (p:=⟨gb834,3,none⟩) (Kd.N_mono HO844.out (fun k_ hk=>(⟨hk,hk.2.2.2.2.2.2⟩:_∧k_≠gb834))) (fun _ hk=>hk.2) (.slice Ao74 y842.length co74)) (fun _ h_=>h_.1))) (Kd.R_base ho0) hb);have n8_:=aK_ (Kd.R_lower (Kd.R_new' (Kd.R_new' (Kd.R_newM (M:=fun k_=>(w.heap.size≤k_)) ho0 (zAE (aQ_ HB.out GE780.out GE781.out GE834.out)) (fun k_ h_=>h_)) (Kd.R_lt (by refine aR_ ?_;exact (Kd.R_mono (Kd.R_far (p:=⟨gb834,3,none⟩) (Kd.R_types HO_5.out BK834.out (by decide)) (fun _ hk=>hk.2) (.slice Ao74 y842.length co74)) (fun _ h_=>h_.1))))) (Kd.R_lt (by refine aR_ ?_;exact (Kd.R_mono (Kd.R_far (p:=⟨gb834,3,none⟩) (Kd.R_types HO_12.out BK834.out (by decide)) (fun _ hk=>hk.2) (.slice Ao74 y842.length co74)) (fun _ h_=>h_.1))))) (zAE (aQ_ HB.out GE780.out GE781.out GE834.out)));have n9_:=aK_ (zAN (g:=gb780) (o:=.cells #[.string a0_0,.slice A0_1 l0_1.length c0_1,.int .i64 a0_2,.slice A0_3 l0_3.length c0_3] 25 (0,0)) (by refine aB_ ?_;refine blk_far ?_ NB780_834.out _;refine aB_ ?_;exact BK780.out) hb);have n10_:=aK_ (zAN (g:=gb781) (o:=.cells #[.string a0_0,.slice A0_1 l0_1.length c0_1,.int .i64 a0_2,.slice A1_3 l1_3.length c1_3] 25 (0,0)) (by refine aB_ ?_;refine blk_far ?_ NB781_834.out _;refine aB_ ?_;exact BK781.out) hb);have n11_:=aK_ (zAN (g:=gb834) (o:=.cells #[.string a0_0,.slice A0_1 l0_1.length c0_1,.int .i64 a0_2,.slice Ao74 y842.length co74] 25 (0,0)) (by refine aB_ ?_;refine blk_put (cs:=#[.string a0_0,.slice A0_1 l0_1.length c0_1,.int .i64 a0_2,.slice Ao69 y838.length co69]) ?_ 3 _ rfl;refine aB_ ?_;exact BK834.out) hb);have n12_:=aK_ (zAH (aQ_ HB.out GE780.out GE781.out GE834.out) hb);clear HO_5;clear HO_11;clear HO_12;clear HO_13;clear HO_781003;clear HO_782003;clear HL841_4;clear HO844;clear BK780;clear BK781;clear BK834;clear HB;have HO_5:=n0_;have HO_11:=n1_;have HO_12:=n2_;have HO_13:=n3_;have HO_781003:=n4_;have HO_782003:=n5_;have HL841_4:=n6_;have HO844:=n7_;have HO847:=n8_;have BK780:=n9_;have BK781:=n10_;have BK834:=n11_;have HB:=n12_;clear n0_ n1_ n2_ n3_ n4_ n5_ n6_ n7_ n8_ n9_ n10_ n11_ n12_;(try clear hb);(try clear hb2);(try clear hk);(try clear hi);(try clear ho0);have p850:0≤(x14_2:Int):=aD_;have q850:x14_2<(y814.length:Int):=aD_;obtain ⟨ad850,A850_4,c850_4,e850,hx850_0,hx850_1,hx850_2,hx850_3,hx850_4,hx850_5,hl850_4,hi850_4⟩:=at_T33 (Kd.N_reads' HO_13.out).2.2 x14_2 p850 q850;obtain rfl:ad841=ad850:=(by injection e850);obtain ⟨ce850,hce850,hMe850,hcc850⟩:=Kd.N_get HO_13.out z33 x14_2 p850 (by first|exact q850|exact aD_|(have e_:=(Kd.N_reads' HO_13.out).1;omega));obtain ⟨ua850_4,uc850_4,rfl,ul850_4,ge850_4⟩:=k33_openF hMe850;have hv850_4:=hcc850 4 _ rfl;rw [add_field _ _ 4 (by omega)] at hv850_4;replace hv850_4:=Option.some.inj (hv850_4.symm.trans hx850_4);injection hv850_4 with hva_ hvn_ hvc_;rw [hva_] at ge850_4;rw [hvc_] at ul850_4;have HL850_4:=aK_ (show Kd.V k45 45 _ w.heap.size _ _ ((zAC y814 x14_2).f4) from Kd.V_mk ul850_4 ge850_4);clear hva_ hvn_ hvc_ ge850_4 ul850_4;clear hcc850 hce850;have HR850_4:=aK_ hi850_4;have HC850_4:=aK_ hl850_4;clear hi850_4 hl850_4;replace p850:=eq_true p850;replace q850:=eq_true q850))
  go_ret
  exact ⟨by first|rfl|(simp [zAL,zAK] <;> rfl)|(simp [*,zAL,zAK] <;> rfl),aQ_ HB.out GE780.out GE781.out GE834.out⟩
 rw [if_pos c83] at H
 have c83b0:(t848 == 0)=true:=beq_iff_eq.mpr c83
 have c83b1:(t848 != 0)=false:=bne_eq_false_iff_eq.mpr c83
 clear c83
 replace H:=Option.bind_eq_some_iff.mp H
 obtain ⟨t851,A840,H⟩:=H
 replace H:(if t851=true then (zAD.l0 k2 t783 y799 y811 y814 (wrap64 (x14_2+1)) a0_0 l0_1 a0_2 l0_3) else (some false))=some r:=H
 have A84:=aK_ A840
 clear A840
 by_cases c85:t851=true
 rotate_left
 ·replace c85:=Bool.eq_false_iff.mpr c85
  subst c85
  have H1:(some false)=some r:=by rw [if_neg (show ¬ (false=true) by decide)] at H;exact H
  clear H
  have H:=H1
  clear H1
  obtain rfl:=Option.some.inj H
  try go_wp2_with (first|((with_reducible refine gate_callee (f:=33) rfl ?_);refine goesL_ (some 108) rfl rfl Tryd.func33 (by kernel_rfl) rfl #[.agg #[.string a0_0,.slice A0_1 l0_1.length c0_1,.int .i64 a0_2,.slice Ao74 y842.length co74]] rfl aM_ ?_;(with_reducible refine (zAG.calls k2 a0_0 _ _ l0_1 a0_2 _ _ y842 t845 t848 t849 _ ?side1 ?side2 ?side3 ?side4 ?side5 A54.out).mono ?_);(case side1=>(first|(with_reducible exact hG)|((repeat (with_reducible first|exact hG|apply GW.drewN|apply GW.drew|apply GW.alloc));done)|exact GW.below hG (aQ_ HB.out GE780.out GE781.out GE834.out)));(case side2=>exact Kd.C_below HR0_1.out (aQ_ HB.out GE780.out GE781.out GE834.out));(case side3=>exact HC0_1.out);(case side4=>refine (Kd.N_reads' (e:=33) (base:=w.heap.size) (ok:=fun k_=>(((P0_3_ k_∨P1_3_ k_)∨w.heap.size≤k_)∧(some k_≠(.slice Ao44 t783.length co44:Value).ownBlock∧(some k_≠(v812:Value).ownBlock∧(some k_≠(.slice (some ad841) y814.length co57:Value).ownBlock∧(k_≠gb780∧(k_≠gb781∧k_≠gb834))))))) (n:=y842.length) (c:=co74) ?_).2.2;exact (by refine aN_ ?_;exact (Kd.N_mono (Kd.N_far (p:=⟨gb834,3,none⟩) (Kd.N_mono HO844.out (fun k_ hk=>(⟨hk,hk.2.2.2.2.2.2⟩:_∧k_≠gb834))) (fun _ hk=>hk.2) (.slice Ao74 y842.length co74)) (fun _ h_=>h_.1))));(case side5=>exact (Kd.N_reads' HO844.out).2.1);rintro e w129 ⟨v846,rfl,ho0,hb⟩;refine ⟨_,rfl,?_⟩;have n0_:=aK_ (Kd.R_elder' (by refine aR_ ?_;exact (Kd.R_mono (Kd.R_far (p:=⟨gb834,3,none⟩) (Kd.R_types HO_5.out BK834.out (by decide)) (fun _ hk=>hk.2) (.slice Ao74 y842.length co74)) (fun _ h_=>h_.1))) (Kd.R_base ho0) hb);have n1_:=aK_ (Kd.N_elder' (by refine aN_ ?_;exact (Kd.N_mono (Kd.N_far (p:=⟨gb834,3,none⟩) (Kd.N_mono HO_11.out (fun k_ hk=>(⟨hk,hk.1.2.2.2.2.2.2⟩:_∧k_≠gb834))) (fun _ hk=>hk.2) (.slice Ao74 y842.length co74)) (fun _ h_=>h_.1))) (Kd.R_base ho0) hb);have n2_:=aK_ (Kd.R_elder' (by refine aR_ ?_;exact (Kd.R_mono (Kd.R_far (p:=⟨gb834,3,none⟩) (Kd.R_types HO_12.out BK834.out (by decide)) (fun _ hk=>hk.2) (.slice Ao74 y842.length co74)) (fun _ h_=>h_.1))) (Kd.R_base ho0) hb);have n3_:=aK_ (Kd.N_elder' (by refine aN_ ?_;exact (Kd.N_mono (Kd.N_far (p:=⟨gb834,3,none⟩) (Kd.N_mono HO_13.out (fun k_ hk=>(⟨hk,hk.1.2.2.2.2.2.2⟩:_∧k_≠gb834))) (fun _ hk=>hk.2) (.slice Ao74 y842.length co74)) (fun _ h_=>h_.1))) (Kd.R_base ho0) hb);have n4_:=aK_ (Kd.V_elder' (by refine aV_ ?_;exact (Kd.V_mono (Kd.V_far (p:=⟨gb834,3,none⟩) (Kd.V_mono HO_781003.out (fun k_ hk=>(⟨hk,hk.1.2.2.2.2.2.2.2⟩:_∧k_≠gb834))) (fun _ hk=>hk.2) (.slice Ao74 y842.length co74)) (fun _ h_=>h_.1))) (Kd.R_base ho0) hb);have n5_:=aK_ (Kd.V_elder' (by refine aV_ ?_;exact (Kd.V_mono (Kd.V_far (p:=⟨gb834,3,none⟩) (Kd.V_mono HO_782003.out (fun k_ hk=>(⟨hk,hk.1.2.2.2.2.2.2.2⟩:_∧k_≠gb834))) (fun _ hk=>hk.2) (.slice Ao74 y842.length co74)) (fun _ h_=>h_.1))) (Kd.R_base ho0) hb);have n6_:=aK_ (Kd.V_elder' (by refine aV_ ?_;exact (Kd.V_mono (Kd.V_far (p:=⟨gb834,3,none⟩) (Kd.V_mono HL841_4.out (fun k_ hk=>(⟨hk,hk.1.2.2.2.2.2.2.2⟩:_∧k_≠gb834))) (fun _ hk=>hk.2) (.slice Ao74 y842.length co74)) (fun _ h_=>h_.1))) (Kd.R_base ho0) hb);have n7_:=aK_ (Kd.N_elder' (by refine aN_ ?_;exact (Kd.N_mono (Kd.N_far (p:=⟨gb834,3,none⟩) (Kd.N_mono HO844.out (fun k_ hk=>(⟨hk,hk.2.2.2.2.2.2⟩:_∧k_≠gb834))) (fun _ hk=>hk.2) (.slice Ao74 y842.length co74)) (fun _ h_=>h_.1))) (Kd.R_base ho0) hb);have n8_:=aK_ (Kd.R_lower (Kd.R_new' (Kd.R_new' (Kd.R_newM (M:=fun k_=>(w.heap.size≤k_)) ho0 (zAE (aQ_ HB.out GE780.out GE781.out GE834.out)) (fun k_ h_=>h_)) (Kd.R_lt (by refine aR_ ?_;exact (Kd.R_mono (Kd.R_far (p:=⟨gb834,3,none⟩) (Kd.R_types HO_5.out BK834.out (by decide)) (fun _ hk=>hk.2) (.slice Ao74 y842.length co74)) (fun _ h_=>h_.1))))) (Kd.R_lt (by refine aR_ ?_;exact (Kd.R_mono (Kd.R_far (p:=⟨gb834,3,none⟩) (Kd.R_types HO_12.out BK834.out (by decide)) (fun _ hk=>hk.2) (.slice Ao74 y842.length co74)) (fun _ h_=>h_.1))))) (zAE (aQ_ HB.out GE780.out GE781.out GE834.out)));have n9_:=aK_ (zAN (g:=gb780) (o:=.cells #[.string a0_0,.slice A0_1 l0_1.length c0_1,.int .i64 a0_2,.slice A0_3 l0_3.length c0_3] 25 (0,0)) (by refine aB_ ?_;refine blk_far ?_ NB780_834.out _;refine aB_ ?_;exact BK780.out) hb);have n10_:=aK_ (zAN (g:=gb781) (o:=.cells #[.string a0_0,.slice A0_1 l0_1.length c0_1,.int .i64 a0_2,.slice A1_3 l1_3.length c1_3] 25 (0,0)) (by refine aB_ ?_;refine blk_far ?_ NB781_834.out _;refine aB_ ?_;exact BK781.out) hb);have n11_:=aK_ (zAN (g:=gb834) (o:=.cells #[.string a0_0,.slice A0_1 l0_1.length c0_1,.int .i64 a0_2,.slice Ao74 y842.length co74] 25 (0,0)) (by refine aB_ ?_;refine blk_put (cs:=#[.string a0_0,.slice A0_1 l0_1.length c0_1,.int .i64 a0_2,.slice Ao69 y838.length co69]) ?_ 3 _ rfl;refine aB_ ?_;exact BK834.out) hb);have n12_:=aK_ (zAH (aQ_ HB.out GE780.out GE781.out GE834.out) hb);clear HO_5;clear HO_11;clear HO_12;clear HO_13;clear HO_781003;clear HO_782003;clear HL841_4;clear HO844;clear BK780;clear BK781;clear BK834;clear HB;have HO_5:=n0_;have HO_11:=n1_;have HO_12:=n2_;have HO_13:=n3_;have HO_781003:=n4_;have HO_782003:=n5_;have HL841_4:=n6_;have HO844:=n7_;have HO847:=n8_;have BK780:=n9_;have BK781:=n10_;have BK834:=n11_;have HB:=n12_;clear n0_ n1_ n2_ n3_ n4_ n5_ n6_ n7_ n8_ n9_ n10_ n11_ n12_;(try clear hb);(try clear hb2);(try clear hk);(try clear hi);(try clear ho0);have p850:0≤(x14_2:Int):=aD_;have q850:x14_2<(y814.length:Int):=aD_;obtain ⟨ad850,A850_4,c850_4,e850,hx850_0,hx850_1,hx850_2,hx850_3,hx850_4,hx850_5,hl850_4,hi850_4⟩:=at_T33 (Kd.N_reads' HO_13.out).2.2 x14_2 p850 q850;obtain rfl:ad841=ad850:=(by injection e850);obtain ⟨ce850,hce850,hMe850,hcc850⟩:=Kd.N_get HO_13.out z33 x14_2 p850 (by first|exact q850|exact aD_|(have e_:=(Kd.N_reads' HO_13.out).1;omega));obtain ⟨ua850_4,uc850_4,rfl,ul850_4,ge850_4⟩:=k33_openF hMe850;have hv850_4:=hcc850 4 _ rfl;rw [add_field _ _ 4 (by omega)] at hv850_4;replace hv850_4:=Option.some.inj (hv850_4.symm.trans hx850_4);injection hv850_4 with hva_ hvn_ hvc_;rw [hva_] at ge850_4;rw [hvc_] at ul850_4;have HL850_4:=aK_ (show Kd.V k45 45 _ w.heap.size _ _ ((zAC y814 x14_2).f4) from Kd.V_mk ul850_4 ge850_4);clear hva_ hvn_ hvc_ ge850_4 ul850_4;clear hcc850 hce850;have HR850_4:=aK_ hi850_4;have HC850_4:=aK_ hl850_4;clear hi850_4 hl850_4;replace p850:=eq_true p850;replace q850:=eq_true q850;obtain ⟨Ao130,co130,eo130⟩:=Kd.R_slice HO847.out;subst eo130;obtain ⟨Ao131,co131,eo131⟩:=Kd.R_slice HO_12.out;subst eo131)|(go_at_call 35;(with_reducible refine (zAM.calls k2 _ _ t845 _ _ y811 false _ ?side1 ?side2 ?side3 ?side4 A84.out).mono ?_);(case side1=>repeat (first|exact (Kd.R_reads' HO847.out).2.2|(with_reducible refine Kd.C_alloc ?_ _)|(with_reducible refine Kd.C_drewN ?_ _)|(with_reducible refine Kd.C_drew ?_)));(case side2=>exact (Kd.R_reads' HO847.out).2.1);(case side3=>repeat (first|exact (Kd.R_reads' HO_12.out).2.2|(with_reducible refine Kd.C_alloc ?_ _)|(with_reducible refine Kd.C_drewN ?_ _)|(with_reducible refine Kd.C_drew ?_)));(case side4=>exact (Kd.R_reads' HO_12.out).2.1);rintro e w' ⟨rfl,⟨nd,rfl⟩⟩))
  go_ret
  exact ⟨by first|rfl|(simp [zAL,zAK] <;> rfl)|(simp [*,zAL,zAK] <;> rfl),aQ_ HB.out GE780.out GE781.out GE834.out⟩
 subst c85
 have H1:(zAD.l0 k2 t783 y799 y811 y814 (wrap64 (x14_2+1)) a0_0 l0_1 a0_2 l0_3)=some r:=by rw [if_pos rfl] at H;exact H
 clear H
 have H:=H1
 clear H1
 have H':=aK_ H
 clear H
 try go_wp2_with (first|((with_reducible refine gate_callee (f:=33) rfl ?_);refine goesL_ (some 108) rfl rfl Tryd.func33 (by kernel_rfl) rfl #[.agg #[.string a0_0,.slice A0_1 l0_1.length c0_1,.int .i64 a0_2,.slice Ao74 y842.length co74]] rfl aM_ ?_;(with_reducible refine (zAG.calls k2 a0_0 _ _ l0_1 a0_2 _ _ y842 t845 t848 t849 _ ?side1 ?side2 ?side3 ?side4 ?side5 A54.out).mono ?_);(case side1=>(first|(with_reducible exact hG)|((repeat (with_reducible first|exact hG|apply GW.drewN|apply GW.drew|apply GW.alloc));done)|exact GW.below hG (aQ_ HB.out GE780.out GE781.out GE834.out)));(case side2=>exact Kd.C_below HR0_1.out (aQ_ HB.out GE780.out GE781.out GE834.out));(case side3=>exact HC0_1.out);(case side4=>refine (Kd.N_reads' (e:=33) (base:=w.heap.size) (ok:=fun k_=>(((P0_3_ k_∨P1_3_ k_)∨w.heap.size≤k_)∧(some k_≠(.slice Ao44 t783.length co44:Value).ownBlock∧(some k_≠(v812:Value).ownBlock∧(some k_≠(.slice (some ad841) y814.length co57:Value).ownBlock∧(k_≠gb780∧(k_≠gb781∧k_≠gb834))))))) (n:=y842.length) (c:=co74) ?_).2.2;exact (by refine aN_ ?_;exact (Kd.N_mono (Kd.N_far (p:=⟨gb834,3,none⟩) (Kd.N_mono HO844.out (fun k_ hk=>(⟨hk,hk.2.2.2.2.2.2⟩:_∧k_≠gb834))) (fun _ hk=>hk.2) (.slice Ao74 y842.length co74)) (fun _ h_=>h_.1))));(case side5=>exact (Kd.N_reads' HO844.out).2.1);rintro e w106 ⟨v846,rfl,ho0,hb⟩;refine ⟨_,rfl,?_⟩;have n0_:=aK_ (Kd.R_elder' (by refine aR_ ?_;exact (Kd.R_mono (Kd.R_far (p:=⟨gb834,3,none⟩) (Kd.R_types HO_5.out BK834.out (by decide)) (fun _ hk=>hk.2) (.slice Ao74 y842.length co74)) (fun _ h_=>h_.1))) (Kd.R_base ho0) hb);have n1_:=aK_ (Kd.N_elder' (by refine aN_ ?_;exact (Kd.N_mono (Kd.N_far (p:=⟨gb834,3,none⟩) (Kd.N_mono HO_11.out (fun k_ hk=>(⟨hk,hk.1.2.2.2.2.2.2⟩:_∧k_≠gb834))) (fun _ hk=>hk.2) (.slice Ao74 y842.length co74)) (fun _ h_=>h_.1))) (Kd.R_base ho0) hb);have n2_:=aK_ (Kd.R_elder' (by refine aR_ ?_;exact (Kd.R_mono (Kd.R_far (p:=⟨gb834,3,none⟩) (Kd.R_types HO_12.out BK834.out (by decide)) (fun _ hk=>hk.2) (.slice Ao74 y842.length co74)) (fun _ h_=>h_.1))) (Kd.R_base ho0) hb);have n3_:=aK_ (Kd.N_elder' (by refine aN_ ?_;exact (Kd.N_mono (Kd.N_far (p:=⟨gb834,3,none⟩) (Kd.N_mono HO_13.out (fun k_ hk=>(⟨hk,hk.1.2.2.2.2.2.2⟩:_∧k_≠gb834))) (fun _ hk=>hk.2) (.slice Ao74 y842.length co74)) (fun _ h_=>h_.1))) (Kd.R_base ho0) hb);have n4_:=aK_ (Kd.V_elder' (by refine aV_ ?_;exact (Kd.V_mono (Kd.V_far (p:=⟨gb834,3,none⟩) (Kd.V_mono HO_781003.out (fun k_ hk=>(⟨hk,hk.1.2.2.2.2.2.2.2⟩:_∧k_≠gb834))) (fun _ hk=>hk.2) (.slice Ao74 y842.length co74)) (fun _ h_=>h_.1))) (Kd.R_base ho0) hb);have n5_:=aK_ (Kd.V_elder' (by refine aV_ ?_;exact (Kd.V_mono (Kd.V_far (p:=⟨gb834,3,none⟩) (Kd.V_mono HO_782003.out (fun k_ hk=>(⟨hk,hk.1.2.2.2.2.2.2.2⟩:_∧k_≠gb834))) (fun _ hk=>hk.2) (.slice Ao74 y842.length co74)) (fun _ h_=>h_.1))) (Kd.R_base ho0) hb);have n6_:=aK_ (Kd.V_elder' (by refine aV_ ?_;exact (Kd.V_mono (Kd.V_far (p:=⟨gb834,3,none⟩) (Kd.V_mono HL841_4.out (fun k_ hk=>(⟨hk,hk.1.2.2.2.2.2.2.2⟩:_∧k_≠gb834))) (fun _ hk=>hk.2) (.slice Ao74 y842.length co74)) (fun _ h_=>h_.1))) (Kd.R_base ho0) hb);have n7_:=aK_ (Kd.N_elder' (by refine aN_ ?_;exact (Kd.N_mono (Kd.N_far (p:=⟨gb834,3,none⟩) (Kd.N_mono HO844.out (fun k_ hk=>(⟨hk,hk.2.2.2.2.2.2⟩:_∧k_≠gb834))) (fun _ hk=>hk.2) (.slice Ao74 y842.length co74)) (fun _ h_=>h_.1))) (Kd.R_base ho0) hb);have n8_:=aK_ (Kd.R_lower (Kd.R_new' (Kd.R_new' (Kd.R_newM (M:=fun k_=>(w.heap.size≤k_)) ho0 (zAE (aQ_ HB.out GE780.out GE781.out GE834.out)) (fun k_ h_=>h_)) (Kd.R_lt (by refine aR_ ?_;exact (Kd.R_mono (Kd.R_far (p:=⟨gb834,3,none⟩) (Kd.R_types HO_5.out BK834.out (by decide)) (fun _ hk=>hk.2) (.slice Ao74 y842.length co74)) (fun _ h_=>h_.1))))) (Kd.R_lt (by refine aR_ ?_;exact (Kd.R_mono (Kd.R_far (p:=⟨gb834,3,none⟩) (Kd.R_types HO_12.out BK834.out (by decide)) (fun _ hk=>hk.2) (.slice Ao74 y842.length co74)) (fun _ h_=>h_.1))))) (zAE (aQ_ HB.out GE780.out GE781.out GE834.out)));have n9_:=aK_ (zAN (g:=gb780) (o:=.cells #[.string a0_0,.slice A0_1 l0_1.length c0_1,.int .i64 a0_2,.slice A0_3 l0_3.length c0_3] 25 (0,0)) (by refine aB_ ?_;refine blk_far ?_ NB780_834.out _;refine aB_ ?_;exact BK780.out) hb);have n10_:=aK_ (zAN (g:=gb781) (o:=.cells #[.string a0_0,.slice A0_1 l0_1.length c0_1,.int .i64 a0_2,.slice A1_3 l1_3.length c1_3] 25 (0,0)) (by refine aB_ ?_;refine blk_far ?_ NB781_834.out _;refine aB_ ?_;exact BK781.out) hb);have n11_:=aK_ (zAN (g:=gb834) (o:=.cells #[.string a0_0,.slice A0_1 l0_1.length c0_1,.int .i64 a0_2,.slice Ao74 y842.length co74] 25 (0,0)) (by refine aB_ ?_;refine blk_put (cs:=#[.string a0_0,.slice A0_1 l0_1.length c0_1,.int .i64 a0_2,.slice Ao69 y838.length co69]) ?_ 3 _ rfl;refine aB_ ?_;exact BK834.out) hb);have n12_:=aK_ (zAH (aQ_ HB.out GE780.out GE781.out GE834.out) hb);clear HO_5;clear HO_11;clear HO_12;clear HO_13;clear HO_781003;clear HO_782003;clear HL841_4;clear HO844;clear BK780;clear BK781;clear BK834;clear HB;have HO_5:=n0_;have HO_11:=n1_;have HO_12:=n2_;have HO_13:=n3_;have HO_781003:=n4_;have HO_782003:=n5_;have HL841_4:=n6_;have HO844:=n7_;have HO847:=n8_;have BK780:=n9_;have BK781:=n10_;have BK834:=n11_;have HB:=n12_;clear n0_ n1_ n2_ n3_ n4_ n5_ n6_ n7_ n8_ n9_ n10_ n11_ n12_;(try clear hb);(try clear hb2);(try clear hk);(try clear hi);(try clear ho0);have p850:0≤(x14_2:Int):=aD_;have q850:x14_2<(y814.length:Int):=aD_;obtain ⟨ad850,A850_4,c850_4,e850,hx850_0,hx850_1,hx850_2,hx850_3,hx850_4,hx850_5,hl850_4,hi850_4⟩:=at_T33 (Kd.N_reads' HO_13.out).2.2 x14_2 p850 q850;obtain rfl:ad841=ad850:=(by injection e850);obtain ⟨ce850,hce850,hMe850,hcc850⟩:=Kd.N_get HO_13.out z33 x14_2 p850 (by first|exact q850|exact aD_|(have e_:=(Kd.N_reads' HO_13.out).1;omega));obtain ⟨ua850_4,uc850_4,rfl,ul850_4,ge850_4⟩:=k33_openF hMe850;have hv850_4:=hcc850 4 _ rfl;rw [add_field _ _ 4 (by omega)] at hv850_4;replace hv850_4:=Option.some.inj (hv850_4.symm.trans hx850_4);injection hv850_4 with hva_ hvn_ hvc_;rw [hva_] at ge850_4;rw [hvc_] at ul850_4;have HL850_4:=aK_ (show Kd.V k45 45 _ w.heap.size _ _ ((zAC y814 x14_2).f4) from Kd.V_mk ul850_4 ge850_4);clear hva_ hvn_ hvc_ ge850_4 ul850_4;clear hcc850 hce850;have HR850_4:=aK_ hi850_4;have HC850_4:=aK_ hl850_4;clear hi850_4 hl850_4;replace p850:=eq_true p850;replace q850:=eq_true q850;obtain ⟨Ao107,co107,eo107⟩:=Kd.R_slice HO847.out;subst eo107;obtain ⟨Ao108,co108,eo108⟩:=Kd.R_slice HO_12.out;subst eo108)|(go_at_call 35;(with_reducible refine (zAM.calls k2 _ _ t845 _ _ y811 true _ ?side1 ?side2 ?side3 ?side4 A84.out).mono ?_);(case side1=>repeat (first|exact (Kd.R_reads' HO847.out).2.2|(with_reducible refine Kd.C_alloc ?_ _)|(with_reducible refine Kd.C_drewN ?_ _)|(with_reducible refine Kd.C_drew ?_)));(case side2=>exact (Kd.R_reads' HO847.out).2.1);(case side3=>repeat (first|exact (Kd.R_reads' HO_12.out).2.2|(with_reducible refine Kd.C_alloc ?_ _)|(with_reducible refine Kd.C_drewN ?_ _)|(with_reducible refine Kd.C_drew ?_)));(case side4=>exact (Kd.R_reads' HO_12.out).2.1);rintro e w' ⟨rfl,⟨nd,rfl⟩⟩))
 go_roundg k2
 case measure=>have:=HJ6.out;have:=HK2.out;omega
 case rel=>exact ⟨(wrap64 (x14_2+1)),aS2_,H',⟨by have:=HJ6.out;have:=HK2.out;omega⟩,⟨by refine aR_ ?_;exact Kd.R_mono HO_5.out (fun _ hk=>⟨hk.1.1,hk.1.2⟩)⟩,⟨by refine aN_ ?_;exact Kd.N_mono HO_11.out (fun _ hk=>⟨hk.1.1.1,⟨hk.1.1.2.1,⟨hk.1.1.2.2.1,⟨hk.1.1.2.2.2.1,⟨hk.1.1.2.2.2.2.1,hk.1.1.2.2.2.2.2.1⟩⟩⟩⟩⟩)⟩,⟨by refine aR_ ?_;exact Kd.R_mono HO_12.out (fun _ hk=>⟨hk.1.1,hk.1.2⟩)⟩,⟨by refine aN_ ?_;exact Kd.N_mono HO_13.out (fun _ hk=>⟨hk.1.1.1,⟨hk.1.1.2.1,⟨hk.1.1.2.2.1,⟨hk.1.1.2.2.2.1,⟨hk.1.1.2.2.2.2.1,hk.1.1.2.2.2.2.2.1⟩⟩⟩⟩⟩)⟩,⟨by refine aV_ ?_;exact Kd.V_mono HO_781003.out (fun _ hk=>⟨hk.1.1.1,⟨hk.1.1.2.1,⟨hk.1.1.2.2.1,⟨hk.1.1.2.2.2.1,⟨hk.1.1.2.2.2.2.1,⟨hk.1.1.2.2.2.2.2.1,hk.1.1.2.2.2.2.2.2.1⟩⟩⟩⟩⟩⟩)⟩,⟨by refine aV_ ?_;exact Kd.V_mono HO_782003.out (fun _ hk=>⟨hk.1.1.1,⟨hk.1.1.2.1,⟨hk.1.1.2.2.1,⟨hk.1.1.2.2.2.1,⟨hk.1.1.2.2.2.2.1,⟨hk.1.1.2.2.2.2.2.1,hk.1.1.2.2.2.2.2.2.1⟩⟩⟩⟩⟩⟩)⟩,⟨aB_ BK780.out⟩,⟨aB_ BK781.out⟩,⟨aQ_ HB.out GE780.out GE781.out GE834.out⟩⟩
end Go.Proofs.YthbnigjckjkmnaaDoor.S

namespace Go.Proofs.YthbnigjckjkmnaaDoor.S
open Go.RowKit Go.Proofs.YthbnigjckjkmnaaDoorW.PrintWords Go.Proofs.YthbnigjckjkmnaaDoorW.PrintLast Go.Proofs.YthbnigjckjkmnaaDoorW.PrintMore Go.Proofs.YthbnigjckjkmnaaDoor.Pure
abbrev bs (s : ByteArray) : List UInt8 := s.data.toList
theorem bs_len (s : ByteArray) : (bs s).length = s.size := by rw [bs, Array.length_toList]; rfl
theorem bt_nat (s : ByteArray) (i : Nat) (h : i < s.size) : bt s (i : Int) = (((bs s)[i]'(by rw [bs_len]; exact h)).toNat : Int) := by
  unfold bt
  rw [dif_pos (by simpa using h)]
  rfl
theorem bt_drop (s : ByteArray) (i : Nat) (h : i < s.size) : ∃ r, (bs s).drop i = (bs s)[i]'(by rw [bs_len]; exact h) :: r ∧ r = (bs s).drop (i + 1) :=
  ⟨_, List.drop_eq_getElem_cons (by rw [bs_len]; exact h), rfl⟩
theorem wrap_small {x : Int} (h0 : -9223372036854775808 ≤ x) (h1 : x ≤ 9223372036854775807) : wrap64 x = x := by unfold wrap64; omega
theorem runL_take_all (p : Int → Bool) (l : List UInt8) : ∀ c ∈ l.take (runL p l), p (c.toNat : Int) = true := by
  induction l with
  | nil => intro c hc; simp at hc
  | cons a r ih =>
    intro c hc
    by_cases h : p (a.toNat : Int) = true
    · simp only [runL, h, if_true, List.take_succ_cons, List.mem_cons] at hc
      rcases hc with rfl | hc
      · exact h
      · exact ih c hc
    · simp [runL, h] at hc
theorem letter_f (c : Int) : scan_letter.f c = some (isLetter c) := by
  unfold scan_letter.f isLetter
  by_cases h : c ≥ 97
  · rw [if_pos h]; simp [show (97 : Int) ≤ c from h]
  · rw [if_neg h]; simp [show ¬ (97 : Int) ≤ c from h]
def flatW : List (List UInt8) → List UInt8
  | [] => []
  | w :: ws => w ++ 32 :: flatW ws
theorem contains_cons (b : UInt8) (l n : List UInt8) : Lib.contains (b :: l) n = (n.isPrefixOf (b :: l) || Lib.contains l n) := by
  have hge := Lib.index_ge l n
  have hi : Lib.index (b :: l) n = (if n.isPrefixOf (b :: l) then 0 else if Lib.index l n == -1 then -1 else Lib.index l n + 1) := rfl
  rw [Bool.eq_iff_iff]
  unfold Lib.contains
  rw [Bool.or_eq_true, decide_eq_true_iff, decide_eq_true_iff, hi]
  by_cases hp : n.isPrefixOf (b :: l) = true
  · rw [if_pos hp]; simp [hp]
  · rw [if_neg hp]
    by_cases hx : Lib.index l n = -1
    · rw [hx]; simp [hp]
    · have : (Lib.index l n == -1) = false := by simpa using hx
      rw [this]
      simp only [Bool.false_eq_true, if_false]
      constructor
      · intro _; exact .inr (by omega)
      · intro _; omega
theorem pre_words (s w r : List UInt8) (hs : ∀ c ∈ s, c ≠ 32) (hw : ∀ c ∈ w, c ≠ 32) : (s ++ [32]).isPrefixOf (w ++ 32 :: r) = decide (s = w) := by
  induction s generalizing w with
  | nil =>
    cases w with
    | nil => simp [List.isPrefixOf]
    | cons b w =>
      have := hw b (by simp)
      simp [List.isPrefixOf, this]
      exact fun h => this h.symm
  | cons a s ih =>
    cases w with
    | nil =>
      have := hs a (by simp)
      simp [List.isPrefixOf, this]
    | cons b w =>
      have h1 := ih w (fun c hc => hs c (by simp [hc])) (fun c hc => hw c (by simp [hc]))
      simp only [List.cons_append, List.isPrefixOf, h1]
      by_cases hab : a = b
      · subst hab; simp
      · simp [hab]
theorem skip_word (w t n : List UInt8) (hw : ∀ c ∈ w, c ≠ 32) : Lib.contains (w ++ t) (32 :: n) = Lib.contains t (32 :: n) := by
  induction w with
  | nil => rfl
  | cons b w ih =>
    have hb := hw b (by simp)
    rw [List.cons_append, contains_cons, ih (fun c hc => hw c (by simp [hc]))]
    have : (32 :: n).isPrefixOf (b :: (w ++ t)) = false := by
      simp [List.isPrefixOf]
      exact fun h => absurd h.symm hb
    rw [this, Bool.false_or]
theorem contains_words (s : List UInt8) (ws : List (List UInt8)) (hs : ∀ c ∈ s, c ≠ 32) (hw : ∀ w ∈ ws, ∀ c ∈ w, c ≠ 32) :
    Lib.contains (32 :: flatW ws) (32 :: (s ++ [32])) = decide (s ∈ ws) := by
  induction ws with
  | nil =>
    rw [flatW, contains_cons]
    have h1 : (32 :: (s ++ [32])).isPrefixOf [32] = false := by
      cases s <;> simp [List.isPrefixOf]
    have h2 : Lib.contains [] (32 :: (s ++ [32])) = false := rfl
    rw [h1, h2]
    simp
  | cons w ws ih =>
    have h1 : (32 :: (s ++ [32])).isPrefixOf (32 :: (w ++ 32 :: flatW ws)) = decide (s = w) := by
      rw [List.isPrefixOf, pre_words s w _ hs (hw w (by simp))]
      simp
    rw [flatW, contains_cons, h1, skip_word w _ _ (hw w (by simp)), ih (fun v hv => hw v (by simp [hv]))]
    simp [Bool.decide_or]
def wordsL : List (List UInt8) := [[112, 108, 97, 110], [114, 111, 117, 110, 100], [98, 121], [98, 108, 111, 99, 107, 115], [109, 105, 110], [109, 97, 120], [111, 118, 101, 114], [117, 112, 116, 111], [103, 114, 97, 100, 117, 97, 116, 101, 100], [118, 111, 108, 117, 109, 101], [111, 102, 102], [105, 102], [102, 108, 111, 111, 114], [99, 101, 105, 108], [122, 101, 114, 111], [104, 97, 108, 102], [101, 118, 101, 110]]
theorem words_letters : ∀ w ∈ wordsL, w ≠ [] ∧ runL isLetter w = w.length := by decide
theorem words_blank : ∀ w ∈ wordsL, ∀ c ∈ w, c ≠ 32 := by decide
theorem runL_all (p : Int → Bool) (l : List UInt8) (h : runL p l = l.length) : ∀ c ∈ l, p (c.toNat : Int) = true := by
  have := runL_take_all p l
  rw [h, List.take_length] at this
  exact this
theorem word_f (s : ByteArray) (hs : s.size ≤ 140737488351232) : scan_Word.f s = some (decide (bs s ∈ wordsL)) := by
  unfold scan_Word.f
  rw [ByteArray.toList_eq]
  by_cases h0 : bs s = []
  · rw [if_pos h0]
    have : ¬ (bs s ∈ wordsL) := fun h => (words_letters _ h).1 h0
    rw [decide_eq_false this]
  · rw [if_neg h0]
    have hlen : ((⟨#[32]⟩ : ByteArray) ++ s).size = 1 + s.size := by rw [ByteArray.size_append]; rfl
    unfold scan_run_letter.f
    rw [if_pos (by omega), Option.bind_some]
    by_cases hr : runL isLetter (bs s) = s.size
    · rw [if_pos (by exact congrArg Int.ofNat hr), if_pos (by omega), if_pos (by omega)]
      unfold strings_Contains.f
      rw [if_pos (by decide), Option.bind_some]
      congr 1
      have hbs : (((⟨#[32]⟩ : ByteArray) ++ s) ++ (⟨#[32]⟩ : ByteArray)).data.toList = 32 :: (bs s ++ [32]) := by
        rw [ByteArray.data_append, ByteArray.data_append, Array.toList_append, Array.toList_append]
        rfl
      rw [hbs]
      exact contains_words (bs s) wordsL (fun c hc h => by
        have := runL_all isLetter (bs s) (by rw [hr, bs_len]) c hc
        subst h
        exact absurd this (by decide)) words_blank
    · rw [if_neg (by intro h; exact hr (Int.ofNat.inj h))]
      have : ¬ (bs s ∈ wordsL) := fun h => hr (by rw [(words_letters _ h).2, bs_len])
      rw [decide_eq_false this]
def nameB (l : List UInt8) : Bool := decide (0 < l.length) && decide (l.length ≤ 32) && (match l with | [] => false | c :: _ => isLetter (c.toNat : Int)) && decide (runL isInner l = l.length) && !decide (l ∈ wordsL)
theorem name_f (s : ByteArray) (hs : s.size ≤ 140737488351232) : scan_Name.f s = some (nameB (bs s)) := by
  have hbl := bs_len s
  unfold scan_Name.f nameB
  rw [ByteArray.toList_eq]
  by_cases h0 : bs s = []
  · rw [if_pos h0, h0]; rfl
  · have hpos : 0 < s.size := by rw [← hbl]; exact List.length_pos_iff.2 h0
    rw [if_neg h0, hbl, decide_eq_true hpos, Bool.true_and]
    by_cases h32 : s.size ≤ 32
    · have hb := bt_nat s 0 hpos
      obtain ⟨r, hr, _⟩ := bt_drop s 0 hpos
      rw [List.drop_zero] at hr
      have hb' : bt s 0 = (((bs s)[0]'(by rw [hbl]; exact hpos)).toNat : Int) := hb
      rw [if_pos (by omega), if_pos (by omega), letter_f, Option.bind_some, decide_eq_true h32, Bool.true_and, hb']
      have hm : (match bs s with | [] => false | c :: _ => isLetter (c.toNat : Int)) = isLetter (((bs s)[0]'(by rw [hbl]; exact hpos)).toNat : Int) := by
        generalize (bs s)[0]'(by rw [hbl]; exact hpos) = c at hr ⊢
        rw [hr]
      rw [hm]
      cases hl : isLetter (((bs s)[0]'(by rw [hbl]; exact hpos)).toNat : Int) with
      | false => rw [if_neg (by decide)]; simp
      | true =>
        rw [if_pos rfl, word_f s hs]
        unfold scan_run_inner.f
        rw [if_pos (by omega), Option.bind_some, Option.bind_some, Bool.true_and]
        by_cases hr : runL isInner (bs s) = s.size
        · rw [if_pos (by exact congrArg Int.ofNat hr), decide_eq_true hr, Bool.true_and]
        · rw [if_neg (by intro h; exact hr (Int.ofNat.inj h)), decide_eq_false hr]; rfl
    · rw [if_neg (by omega), decide_eq_false h32]; simp
end Go.Proofs.YthbnigjckjkmnaaDoor.S

namespace Go.Proofs.YthbnigjckjkmnaaDoor.S
open Go.RowKit Go.Proofs.YthbnigjckjkmnaaDoorW.PrintWords Go.Proofs.YthbnigjckjkmnaaDoorW.PrintLast Go.Proofs.YthbnigjckjkmnaaDoorW.PrintMore Go.Proofs.YthbnigjckjkmnaaDoor.Pure
abbrev Nd := S33
abbrev Dm := S47
abbrev Tr := S45
theorem Ev.ifp {α : Type} {c : Prop} [Decidable c] {g f : Nat → Option α} {r : α} (hc : c) (h : Ev g r) : Ev (fun k => if c then g k else f k) r := by
  simp only [if_pos hc]; exact h
theorem Ev.ifn {α : Type} {c : Prop} [Decidable c] {g f : Nat → Option α} {r : α} (hc : ¬ c) (h : Ev f r) : Ev (fun k => if c then g k else f k) r := by
  simp only [if_neg hc]; exact h
theorem Ev.both {α : Type} {g : Nat → Option α} {r s : α} (h : Ev g r) (e : r = s) : Ev g s := e ▸ h
theorem Ev.pre {α β : Type} {o : Option β} {f : Nat → β → Option α} {b : β} {r : α} (h : o = some b) (k : Ev (fun n => f n b) r) : Ev (fun n => o.bind (f n)) r := by
  subst h
  exact k
theorem rdN (l : List Nd) (i : Nat) (h : i < l.length) : zAC l (i : Int) = l[i] := by simp [zAC, List.getD_eq_getElem?_getD, List.getElem?_eq_getElem h]
theorem rdT (l : List Tr) (i : Nat) (h : i < l.length) : zAP l (i : Int) = l[i] := by simp [zAP, List.getD_eq_getElem?_getD, List.getElem?_eq_getElem h]
theorem rdI (l : List Int) (i : Nat) (h : i < l.length) : rd l (i : Int) = l[i] := by simp [rd, List.getD_eq_getElem?_getD, List.getElem?_eq_getElem h]
theorem w_up (i : Nat) (h : i ≤ 140737488351232) : wrap64 ((i : Int) + 1) = ((i + 1 : Nat) : Int) := by unfold wrap64; omega
theorem Ev.ite2 {α : Type} {c : Prop} [Decidable c] {g f : Nat → Option α} {r s : α} (h : Ev g r) (h' : Ev f s) : Ev (fun k => if c then g k else f k) (if c then r else s) := by
  by_cases hc : c
  · rw [if_pos hc]; exact Ev.ifp hc h
  · rw [if_neg hc]; exact Ev.ifn hc h'
theorem Ev.ite3 {α : Type} {c : Prop} [Decidable c] {g f : Nat → Option α} {r s : α} (h : c → Ev g r) (h' : ¬ c → Ev f s) : Ev (fun k => if c then g k else f k) (if c then r else s) := by
  by_cases hc : c
  · rw [if_pos hc]; exact Ev.ifp hc (h hc)
  · rw [if_neg hc]; exact Ev.ifn hc (h' hc)
theorem w_len (n : Nat) (h : n ≤ 140737488351232) : wrap64 (n : Int) = n := wrap_small (by omega) (by omega)
def riseL : Option Int → List Tr → Bool
  | _, [] => true
  | p, t :: r => if (match p with | none => false | some q => decide (t.f0 ≤ q)) = true then false else if t.f0 > 1000000000000 then false else if t.f1 < -1000000000000 then false else if t.f1 > 1000000000000 then false else riseL (some t.f0) r
theorem riseL_none (t : Tr) (r : List Tr) : riseL none (t :: r) = if t.f0 > 1000000000000 then false else if t.f1 < -1000000000000 then false else if t.f1 > 1000000000000 then false else riseL (some t.f0) r := by
  rw [riseL]; exact if_neg (by decide)
theorem riseL_some (q : Int) (t : Tr) (r : List Tr) : riseL (some q) (t :: r) = if t.f0 ≤ q then false else if t.f0 > 1000000000000 then false else if t.f1 < -1000000000000 then false else if t.f1 > 1000000000000 then false else riseL (some t.f0) r := by
  rw [riseL]; simp only [decide_eq_true_eq]
def prevT (l : List Tr) : Nat → Option Int
  | 0 => none
  | j + 1 => (l[j]?).map (·.f0)
theorem prevT_succ (l : List Tr) (i : Nat) (h : i < l.length) : prevT l (i + 1) = some l[i].f0 := by simp [prevT, List.getElem?_eq_getElem h]
def riseB (l : List Tr) : Bool := if (l.length : Int) < 1 then false else if (l.length : Int) > 16 then false else if ((zAP l 0).f0 != 0) = true then false else riseL none l
theorem rising_l0 (l : List Tr) (hl : l.length ≤ 140737488351232) (d : Nat) : ∀ i, i + d = l.length → Ev (fun k => tree_rising.l0 k l l (l.length : Int) (i : Int)) (riseL (prevT l i) (l.drop i)) := by
  induction d with
  | zero =>
    intro i hi
    rw [List.drop_of_length_le (by omega)]
    refine Ev.step (f := fun _ => some true) (fun k => by simp only [tree_rising.l0]; rw [if_neg (by omega)]) ?_
    exact Ev.now _
  | succ d ih =>
    intro i hi
    have h : i < l.length := by omega
    have hn := ih (i + 1) (by omega)
    rw [prevT_succ l i h] at hn
    rw [List.drop_eq_getElem_cons h]
    refine Ev.step (fun k => by simp only [tree_rising.l0]; rw [if_pos (by omega), if_pos (by omega), if_pos (by omega), rdT l i h, w_up i (by omega)]) ?_
    cases i with
    | zero =>
      rw [show prevT l 0 = none from rfl, riseL_none]
      refine Ev.ifn (by simp) ?_
      exact Ev.ite2 (Ev.now _) (Ev.ite2 (Ev.now _) (Ev.ite2 (Ev.now _) hn))
    | succ j =>
      refine Ev.ifp (by omega) ?_
      rw [show ((j + 1 : Nat) : Int) - 1 = (j : Int) by omega, w_len j (by omega), rdT l j (by omega)]
      refine Ev.ifp (by omega) (Ev.ifp (by omega) ?_)
      rw [prevT_succ l j (by omega), riseL_some]
      exact Ev.ite2 (Ev.now _) (Ev.ite2 (Ev.now _) (Ev.ite2 (Ev.now _) (Ev.ite2 (Ev.now _) hn)))
theorem rising_ev (l : List Tr) (hl : l.length ≤ 140737488351232) : Ev (fun k => tree_rising.f k l) (riseB l) := by
  unfold riseB
  have h0 := rising_l0 l hl l.length 0 (by omega)
  refine Ev.ite3 (fun _ => ?_) (fun h1 => Ev.ite2 ?_ ?_)
  · exact Ev.step (f := fun _ => some false) (fun k => by simp [tree_rising.j0]) (Ev.now _)
  · exact Ev.step (f := fun _ => some false) (fun k => by simp [tree_rising.j0]) (Ev.now _)
  · refine Ev.ifp (by omega) (Ev.step (fun k => by simp only [tree_rising.j0]; rfl) ?_)
    exact Ev.ite2 (Ev.now _) h0
theorem kind_cases (c : Int) : (c < 1 ∨ c > 16) ∨ c = 1 ∨ c = 2 ∨ c = 3 ∨ c = 4 ∨ c = 5 ∨ c = 6 ∨ c = 7 ∨ c = 8 ∨ c = 9 ∨ c = 10 ∨ c = 11 ∨ c = 12 ∨ c = 13 ∨ c = 14 ∨ c = 15 ∨ c = 16 := by omega
def tkOf (n : Nd) : Int := if tk n.f0 ≥ 0 then tk n.f0 else n.f3
theorem takes_f (n : Nd) (h : 1 ≤ n.f0 ∧ n.f0 ≤ 16) : tree_takes.f n.f0 n.f1 n.f2 n.f3 n.f4 n.f5 = some (tkOf n) := by
  unfold tree_takes.f tkOf
  rw [if_pos (by omega)]
def mostB (c dims : Int) : Int := if mo c < 0 then wrap64 (dims - 1) else mo c
def fieldsB (n : Nd) (dims : Int) : Bool :=
  !decide (n.f1 < 0) && (!decide (n.f1 > mostB n.f0 dims) && ((if op n.f0 = true then decide (n.f2 ≥ 1) && decide (n.f2 ≤ 6) else n.f2 == 0) && ((if tk n.f0 < 0 then decide (n.f3 ≥ 2) && decide (n.f3 ≤ 16) else n.f3 == 0) && (ti n.f0 || decide (¬ 0 < n.f4.length)))))
theorem bad_eq (n : Nd) (dims pile : Int) (h : 1 ≤ n.f0 ∧ n.f0 ≤ 16) : nodeBad n.f0 n.f1 n.f2 n.f3 n.f4.length dims pile = (!fieldsB n dims || decide (pile < tkOf n)) := by
  unfold nodeBad fieldsB tkOf mostB
  cases (decide (n.f1 < 0)) <;> cases (decide (n.f1 > if mo n.f0 < 0 then wrap64 (dims - 1) else mo n.f0)) <;> cases (if tk n.f0 < 0 then decide (n.f3 ≥ 2) && decide (n.f3 ≤ 16) else n.f3 == 0) <;> cases (if op n.f0 = true then decide (n.f2 ≥ 1) && decide (n.f2 ≤ 6) else n.f2 == 0) <;> cases (ti n.f0) <;> by_cases hq : 0 < n.f4.length <;> simp [hq]
def nodeErr (n : Nd) (dims pile : Int) : Int :=
  if n.f0 < 1 ∨ n.f0 > 16 then 50 else if nodeBad n.f0 n.f1 n.f2 n.f3 n.f4.length dims pile = true then 50 else if ti n.f0 = true then (if riseB n.f4 = true then 0 else 51) else 0
theorem node_ev (n : Nd) (hl : n.f4.length ≤ 140737488351232) (dims pile : Int) : Ev (fun k => tree_node.f k n.f0 n.f1 n.f2 n.f3 n.f4 n.f5 dims pile) (nodeErr n dims pile) := by
  unfold tree_node.f nodeErr
  refine Ev.ite2 (Ev.now _) (Ev.ite2 (Ev.now _) (Ev.ite2 ?_ (Ev.now _)))
  exact Ev.bind (rising_ev n.f4 hl) (Ev.now _)
theorem node_ok {n : Nd} {dims pile : Int} (h : nodeErr n dims pile = 0) : (1 ≤ n.f0 ∧ n.f0 ≤ 16) ∧ fieldsB n dims = true ∧ tkOf n ≤ pile ∧ 0 ≤ tkOf n := by
  unfold nodeErr at h
  by_cases h1 : n.f0 < 1 ∨ n.f0 > 16
  · rw [if_pos h1] at h; omega
  · rw [if_neg h1] at h
    have h2 : 1 ≤ n.f0 ∧ n.f0 ≤ 16 := by omega
    rw [bad_eq n dims pile h2] at h
    cases hf : fieldsB n dims with
    | false => simp [hf] at h
    | true =>
      by_cases h3 : pile < tkOf n
      · simp [h3] at h
      · refine ⟨h2, rfl, by omega, ?_⟩
        unfold tkOf
        split
        · assumption
        · rename_i h4
          unfold fieldsB at hf
          simp only [Bool.and_eq_true] at hf
          have h5 := hf.2.2.2.1
          rw [if_pos (by omega)] at h5
          simp at h5
          omega
def checkL (dims : Int) (tot : Nat) : List Nd → Nat → Int → Int × Int
  | [], _, pile => if pile = 1 then (0, 0) else ((tot : Int), 50)
  | n :: r, i, pile => if nodeErr n dims pile = 0 then checkL dims tot r (i + 1) (pile + (1 - tkOf n)) else ((i : Int), nodeErr n dims pile)
theorem check_l0 (a0 : ByteArray) (l1 : List Dm) (a2 : Int) (l3 : List Nd) (hl : l3.length ≤ 140737488351232) (ht : ∀ n ∈ l3, n.f4.length ≤ 140737488351232) (d : Nat) : ∀ (i : Nat) (pile : Int), i + d = l3.length → 0 ≤ pile → pile ≤ i →
    Ev (fun k => tree_Check.l0 k pile l3 (l3.length : Int) (i : Int) a0 l1 a2 l3) (checkL l1.length l3.length (l3.drop i) i pile) := by
  induction d with
  | zero =>
    intro i pile hi h0 h1
    rw [List.drop_of_length_le (by omega)]
    refine Ev.step (fun k => by simp only [tree_Check.l0]; rw [if_neg (by omega)]) ?_
    exact Ev.ite2 (Ev.now _) (Ev.now _)
  | succ d ih =>
    intro i pile hi h0 h1
    have h : i < l3.length := by omega
    rw [List.drop_eq_getElem_cons h]
    have hn := node_ev l3[i] (ht _ (List.getElem_mem h)) (l1.length : Int) pile
    refine Ev.step (fun k => by simp only [tree_Check.l0]; rw [if_pos (by omega), if_pos (by omega), if_pos (by omega), rdN l3 i h, w_up i (by omega)]) ?_
    refine Ev.bind hn ?_
    unfold checkL
    refine Ev.ite3 (fun he => ?_) (fun _ => Ev.now _)
    obtain ⟨hk, _, hp, hp0⟩ := node_ok he
    refine Ev.pre (takes_f _ hk) ?_
    rw [wrap_small (x := 1 - tkOf l3[i]) (by omega) (by omega), wrap_small (by omega) (by omega)]
    exact ih (i + 1) _ (by omega) (by omega) (by omega)
def anyN (nm : ByteArray) (xs : List Dm) : Bool := xs.any fun e => e.f0.toList == nm.toList
def dimsS (pre : List Dm) : List Dm → Int
  | [] => 0
  | d :: r => if nameB (bs d.f0) = true then (if anyN d.f0 pre = true then 61 else if d.f1 < 1 ∨ d.f1 > 1000000000000 then 50 else dimsS (pre ++ [d]) r) else 61
def headE (a0 : ByteArray) (l1 : List Dm) (a2 : Int) : Int :=
  if nameB (bs a0) = true then (if (l1.length : Int) < 1 ∨ (l1.length : Int) > 4 then 100 else if dimsS [] l1 = 0 then (if a2 < 0 ∨ a2 > 4 then 50 else 0) else dimsS [] l1) else 61
theorem idxL_any (nm : ByteArray) (xs : List Dm) : ∀ n : Int, 0 ≤ n → (idxL nm xs n ≥ 0 ↔ anyN nm xs = true) := by
  induction xs with
  | nil => intro n hn; simp [idxL, anyN]
  | cons d r ih =>
    intro n hn
    rw [idxL]
    by_cases h : (d.f0.toList == nm.toList) = true
    · rw [if_pos h]
      simp only [anyN, List.any_cons, h, Bool.true_or, iff_true]
      exact hn
    · rw [if_neg h, ih (n + 1) (by omega)]
      simp only [anyN, List.any_cons]
      rw [show (d.f0.toList == nm.toList) = false by simpa using h, Bool.false_or]
theorem dimsL_eq (xs : List Dm) : ∀ (pre : List Dm), (∀ d ∈ xs, d.f0.size ≤ 140737488351232) → dimsL pre xs = some (dimsS pre xs) := by
  induction xs with
  | nil => intro pre h; rfl
  | cons d r ih =>
    intro pre h
    rw [dimsL, dimsS, name_f _ (h d (List.mem_cons_self))]
    simp only [Option.bind_some]
    by_cases h1 : nameB (bs d.f0) = true
    · rw [if_pos h1, if_pos h1]
      have h2 := idxL_any d.f0 pre 0 (by omega)
      by_cases h3 : anyN d.f0 pre = true
      · rw [if_pos h3, if_pos (h2.2 h3)]
      · rw [if_neg h3, if_neg (fun q => h3 (h2.1 q))]
        by_cases h4 : d.f1 < 1 ∨ d.f1 > 1000000000000
        · rw [if_pos h4, if_pos h4]
        · rw [if_neg h4, if_neg h4]
          exact ih _ (fun e he => h e (List.mem_cons_of_mem _ he))
    · rw [if_neg h1, if_neg h1]
theorem head_ev (a0 : ByteArray) (l1 : List Dm) (a2 : Int) (l3 : List Nd) (h0 : a0.size ≤ 140737488351232) (h1 : ∀ d ∈ l1, d.f0.size ≤ 140737488351232) : Ev (fun k => tree_head.f k a0 l1 a2 l3) (headE a0 l1 a2) := by
  unfold tree_head.f headE
  refine Ev.pre (name_f a0 h0) ?_
  refine Ev.ite2 (Ev.ite2 (Ev.now _) ?_) (Ev.now _)
  refine Ev.pre (dimsL_eq l1 [] h1) ?_
  unfold modeE
  exact Ev.ite2 (Ev.ite2 (Ev.now _) (Ev.now _)) (Ev.now _)
structure PB (a0 : ByteArray) (l1 : List Dm) (l3 : List Nd) : Prop where
  name : a0.size ≤ 140737488351232
  dims : l1.length ≤ 140737488351232
  names : ∀ d ∈ l1, d.f0.size ≤ 140737488351232
  nodes : l3.length ≤ 140737488351232
  tiers : ∀ n ∈ l3, n.f4.length ≤ 140737488351232
def chk (a0 : ByteArray) (l1 : List Dm) (a2 : Int) (l3 : List Nd) : Int × Int :=
  if headE a0 l1 a2 = 0 then (if (l3.length : Int) > 1024 then (1024, 2) else checkL l1.length l3.length l3 0 0) else (-1, headE a0 l1 a2)
theorem check_ev {a0 : ByteArray} {l1 : List Dm} (a2 : Int) {l3 : List Nd} (h : PB a0 l1 l3) : Ev (fun k => tree_Check.f k a0 l1 a2 l3) (chk a0 l1 a2 l3) := by
  unfold tree_Check.f chk
  refine Ev.bind (head_ev a0 l1 a2 l3 h.name h.names) (Ev.ite2 (Ev.ite2 (Ev.now _) ?_) (Ev.now _))
  have := check_l0 a0 l1 a2 l3 h.nodes h.tiers l3.length 0 0 (by omega) (by omega) (by omega)
  exact this
structure PB2 (a0 : ByteArray) (l1 : List Dm) (a2 : Int) (l3 : List Nd) : Prop where
  pb : PB a0 l1 l3
  dims : l1.length ≤ 5864062014634
  nodes : l3.length ≤ 2199023255488
  tiers : ∀ n ∈ l3, n.f4.length ≤ 8796093022208
  mode : -9223372036854775808 ≤ a2 ∧ a2 ≤ 9223372036854775807
end Go.Proofs.YthbnigjckjkmnaaDoor.S

namespace Go.Proofs.YthbnigjckjkmnaaDoor.S
open Go.RowKit Go.Proofs.YthbnigjckjkmnaaDoorW.PrintWords Go.Proofs.YthbnigjckjkmnaaDoorW.PrintLast Go.Proofs.YthbnigjckjkmnaaDoorW.PrintMore Go.Proofs.YthbnigjckjkmnaaDoor.Pure
theorem checkL_ok (dims : Int) (tot : Nat) (l : List Nd) : ∀ (i : Nat) (pile : Int), (checkL dims tot l i pile).2 = 0 → checkL dims tot l i pile = (0, 0) := by
  induction l with
  | nil =>
    intro i pile h
    unfold checkL at h ⊢
    split at h
    · rename_i hp; rw [if_pos hp]
    · cases h
  | cons n r ih =>
    intro i pile h
    unfold checkL at h ⊢
    split at h
    · rename_i hp; rw [if_pos hp]; exact ih _ _ h
    · rename_i hp; exact absurd h hp
theorem chk_ok {a0 : ByteArray} {l1 : List Dm} {a2 : Int} {l3 : List Nd} (h : (chk a0 l1 a2 l3).2 = 0) : headE a0 l1 a2 = 0 ∧ l3.length ≤ 1024 ∧ checkL l1.length l3.length l3 0 0 = (0, 0) ∧ chk a0 l1 a2 l3 = (0, 0) := by
  unfold chk at h ⊢
  split at h
  · rename_i h1
    split at h
    · cases h
    · rename_i h2
      have := checkL_ok _ _ _ _ _ h
      refine ⟨h1, by omega, this, ?_⟩
      rw [if_pos h1, if_neg h2, this]
  · rename_i h1
    exact absurd h h1
theorem checkL_step {dims : Int} {tot : Nat} {n : Nd} {r : List Nd} {i : Nat} {pile : Int} (h : checkL dims tot (n :: r) i pile = (0, 0)) :
    nodeErr n dims pile = 0 ∧ checkL dims tot r (i + 1) (pile + (1 - tkOf n)) = (0, 0) := by
  unfold checkL at h
  split at h
  · rename_i hp; exact ⟨hp, h⟩
  · rename_i hp
    simp only [Prod.mk.injEq] at h
    exact absurd h.2 hp
def frL : List Nd → Nat → List Int → List Int → List Int
  | [], _, acc, _ => acc
  | n :: r, i, acc, pile => if tkOf n > 0 then frL r (i + 1) (acc ++ [pile.getD ((pile.length : Int) - tkOf n).toNat 0]) (pile.take ((pile.length : Int) - tkOf n).toNat ++ [pile.getD ((pile.length : Int) - tkOf n).toNat 0]) else frL r (i + 1) (acc ++ [(i : Int)]) (pile ++ [(i : Int)])
theorem firsts_l0 (dims : Int) (l3 : List Nd) (hl : l3.length ≤ 1024) (d : Nat) : ∀ (i : Nat) (acc pile : List Int), i + d = l3.length → acc.length = i → pile.length ≤ i → checkL dims l3.length (l3.drop i) i pile.length = (0, 0) →
    Ev (fun k => tree_firsts.l0 k acc pile l3 (l3.length : Int) (i : Int)) (frL (l3.drop i) i acc pile) := by
  induction d with
  | zero =>
    intro i acc pile hi ha hp hc
    rw [List.drop_of_length_le (by omega)]
    exact Ev.step (f := fun _ => some acc) (fun k => by simp only [tree_firsts.l0]; rw [if_neg (by omega)]) (Ev.now _)
  | succ d ih =>
    intro i acc pile hi ha hp hc
    have h : i < l3.length := by omega
    rw [List.drop_eq_getElem_cons h] at hc ⊢
    obtain ⟨he, hc'⟩ := checkL_step hc
    obtain ⟨hk, _, hp1, hp0⟩ := node_ok he
    refine Ev.step (fun k => by simp only [tree_firsts.l0]; rw [if_pos (by omega), if_pos (by omega), if_pos (by omega), rdN l3 i h, w_up i (by omega)]) ?_
    refine Ev.pre (takes_f _ hk) ?_
    have hnext := fun acc' pile' => ih (i + 1) acc' pile' (by omega)
    generalize l3[i] = n at *
    unfold frL
    by_cases h0 : tkOf n > 0
    · rw [if_pos h0]
      obtain ⟨m, hm⟩ := Int.eq_ofNat_of_zero_le (show 0 ≤ (pile.length : Int) - tkOf n by omega)
      have hw : wrap64 (m : Int) = (m : Int) := w_len m (by omega)
      simp only [hm, hw]
      have hml : m < pile.length := by omega
      refine Ev.ifp h0 (Ev.ifp (by omega) (Ev.ifp (by omega) (Ev.ifp (by omega) ?_)))
      refine Ev.pre rfl ?_
      have htk : (pile.take m).length = m := by rw [List.length_take]; omega
      refine Ev.ifp (by rw [Int.toNat_natCast, htk]; omega) (Ev.ifp (by omega) ?_)
      simp only [Int.toNat_natCast]
      have hg : rd pile (m : Int) = pile.getD m 0 := by simp [rd]
      rw [hg]
      refine hnext _ _ (by simp; omega) (by simp; omega) ?_
      rw [← hc']
      congr 1
      simp only [List.length_append, htk, List.length_cons, List.length_nil]
      omega
    · rw [if_neg h0]
      have hz : tkOf n = 0 := by omega
      refine Ev.ifn h0 (Ev.ifp (by omega) (Ev.ifp (by omega) ?_))
      refine hnext _ _ (by simp; omega) (by simp; omega) ?_
      rw [← hc', hz]
      congr 1
      simp
def frs (l3 : List Nd) : List Int := frL l3 0 [] []
theorem firsts_ev {a0 : ByteArray} {l1 : List Dm} (a2 : Int) {l3 : List Nd} (h : PB a0 l1 l3) : Ev (fun k => tree_Firsts.f k a0 l1 a2 l3) (if (chk a0 l1 a2 l3).2 = 0 then (frs l3, 0) else ([], (chk a0 l1 a2 l3).2)) := by
  unfold tree_Firsts.f
  refine Ev.bind (check_ev a2 h) (Ev.ite3 (fun hc => ?_) (fun _ => Ev.now _))
  obtain ⟨_, hl, hc', _⟩ := chk_ok hc
  refine Ev.bind (g := fun k => tree_firsts.f k a0 l1 a2 l3) (a := frs l3) ?_ (Ev.now _)
  exact firsts_l0 (l1.length : Int) l3 hl l3.length 0 [] [] (by omega) rfl (by simp) hc'
def five : List Nd := [(⟨3, 0, 0, 0, [], 0⟩ : Nd), (⟨2, 3, 0, 0, [], 0⟩ : Nd), (⟨8, 0, 0, 0, [], 0⟩ : Nd), (⟨2, 5, 0, 0, [], 0⟩ : Nd), (⟨6, 0, 0, 0, [], 0⟩ : Nd)]
def fiveD : List Dm := [(⟨(⟨#[97]⟩ : ByteArray), 1⟩ : Dm)]
theorem five_PB : PB (⟨#[112]⟩ : ByteArray) fiveD five := ⟨by decide, by decide, by intro d hd; simp [fiveD] at hd; subst hd; decide, by decide, by intro n hn; simp [five] at hn; rcases hn with rfl | rfl | rfl | rfl | rfl <;> decide⟩
end Go.Proofs.YthbnigjckjkmnaaDoor.S

namespace Go.Proofs.YthbnigjckjkmnaaDoor.S
open Go.RowKit Go.Proofs.YthbnigjckjkmnaaDoorW.PrintWords Go.Proofs.YthbnigjckjkmnaaDoorW.PrintLast Go.Proofs.YthbnigjckjkmnaaDoorW.PrintMore Go.Proofs.YthbnigjckjkmnaaDoor.Pure
def sameV : List Int → Int
  | [] => -1
  | a :: r => if r.all (· == a) = true then a else -1
theorem one_l0 (n : Nd) (l6 : List Int) (l7 : List Bool) (j : Nat) (hj : j < l6.length) (hl : l6.length ≤ 140737488351232) (d : Nat) : ∀ i, i + d = (l6.drop j).length →
    Ev (fun k => zAW.l0 k (j : Int) (l6.drop j) ((l6.drop j).length : Int) (i : Int) n.f0 n.f1 n.f2 n.f3 n.f4 n.f5 l6 l7) (if ((l6.drop j).drop i).all (· == l6[j]) = true then l6[j] else -1) := by
  have hd : (l6.drop j).length ≤ l6.length := by rw [List.length_drop]; omega
  induction d with
  | zero =>
    intro i hi
    rw [List.drop_of_length_le (show (l6.drop j).length ≤ i by omega)]
    exact Ev.step (f := fun _ => some l6[j]) (fun k => by simp only [zAW.l0]; rw [if_neg (by omega), if_pos (by omega), if_pos (by omega), rdI _ j hj]) (Ev.now _)
  | succ d ih =>
    intro i hi
    have h : i < (l6.drop j).length := by omega
    rw [List.drop_eq_getElem_cons h, List.all_cons]
    refine Ev.step (fun k => by simp only [zAW.l0]; rw [if_pos (by omega), if_pos (by omega), if_pos (by omega), if_pos (by omega), if_pos (by omega), rdI _ i h, rdI _ j hj, w_up i (by omega)]) ?_
    by_cases c : (l6.drop j)[i] = l6[j]
    · refine Ev.ifp c ?_
      rw [show ((l6.drop j)[i] == l6[j]) = true from beq_iff_eq.2 c, Bool.true_and]
      exact ih (i + 1) (by omega)
    · refine Ev.ifn c ?_
      rw [show ((l6.drop j)[i] == l6[j]) = false from beq_eq_false_iff_ne.2 c, Bool.false_and, if_neg (by decide)]
      exact Ev.now _
theorem one_ev (n : Nd) (l6 : List Int) (l7 : List Bool) (j : Nat) (hj : j < l6.length) (hl : l6.length ≤ 140737488351232) : Ev (fun k => zAW.f k n.f0 n.f1 n.f2 n.f3 n.f4 n.f5 l6 l7 (j : Int)) (sameV (l6.drop j)) := by
  unfold zAW.f
  refine Ev.ifp (by omega) (Ev.ifp (by omega) ?_)
  rw [Int.toNat_natCast]
  have h := one_l0 n l6 l7 j hj hl (l6.drop j).length 0 (by omega)
  refine Ev.both h ?_
  rw [List.drop_zero, List.drop_eq_getElem_cons hj, List.all_cons, show (l6[j] == l6[j]) = true from beq_self_eq_true _, Bool.true_and]
  rfl
def prodV (a b : Int) : Int := if a = 0 then b else if b = 0 then a else if (a ≥ 2 ∧ b = 1) ∨ (b ≥ 2 ∧ a = 1) then 1 else -1
theorem prod_ev (n : Nd) (l6 : List Int) (l7 : List Bool) (h : 1 < l6.length) : Ev (fun k => zAR.f k n.f0 n.f1 n.f2 n.f3 n.f4 n.f5 l6 l7) (prodV (rd l6 0) (rd l6 1)) := by
  refine ⟨2, fun k hk => ?_⟩
  obtain ⟨m, rfl⟩ : ∃ m, k = m + 1 := ⟨k - 1, by omega⟩
  show zAR.f (m + 1) n.f0 n.f1 n.f2 n.f3 n.f4 n.f5 l6 l7 = _
  unfold zAR.f prodV
  rw [if_pos (by omega), if_pos (by omega)]
  generalize rd l6 0 = a
  generalize rd l6 1 = b
  by_cases h1 : a = 0
  · rw [if_pos h1, if_pos h1]
  · by_cases h2 : b = 0
    · rw [if_neg h1, if_pos h2, if_neg h1, if_pos h2]
    · rw [if_neg h1, if_neg h2, if_neg h1, if_neg h2]
      by_cases h3 : a ≥ 2 <;> by_cases h4 : b = 1 <;> by_cases h5 : a = 1 <;> by_cases h6 : b ≥ 2 <;> simp [units_count.f, zAR.j0, h3, h4, h5, h6] <;> omega
def tyv (n : Nd) (ks : List Int) : Int :=
  if n.f0 = 1 then 0 else if n.f0 = 2 then 1 else if n.f0 = 3 then wrap64 (2 + wrap64 (2 * n.f1)) else if n.f0 = 4 then wrap64 (3 + wrap64 (2 * n.f1))
  else if n.f0 = 8 then prodV (rd ks 0) (rd ks 1)
  else if n.f0 = 11 ∨ n.f0 = 12 then (if rd ks 0 ≥ 2 then rd ks 0 else -1)
  else if n.f0 = 13 ∨ n.f0 = 14 then (if rd ks 0 ≥ 2 then 1 else -1)
  else if n.f0 = 15 then (if rd ks 0 = 1 then 1 else -1)
  else if n.f0 = 16 then (if rd ks 0 ≥ 2 then sameV (ks.drop 1) else -1)
  else sameV ks
structure Kids (n : Nd) (ks : List Int) : Prop where
  k : 1 ≤ n.f0 ∧ n.f0 ≤ 16
  one : 5 ≤ n.f0 → 0 < ks.length
  two : n.f0 = 8 ∨ n.f0 = 16 → 1 < ks.length
  len : ks.length ≤ 140737488351232
theorem count_f (a : Int) : units_count.f a = some (decide (a ≥ 2)) := rfl
theorem dyn_ev {n : Nd} {ks : List Int} (fx : List Bool) (h : Kids n ks) : Ev (fun k => units_dyn.f k n.f0 n.f0 n.f1 n.f2 n.f3 n.f4 n.f5 ks fx) (tyv n ks) := by
  obtain ⟨⟨k1, k2⟩, o, t, hl⟩ := h
  unfold units_dyn.f tyv
  refine Ev.ite3 (fun _ => Ev.now _) (fun c1 => Ev.ite3 (fun _ => Ev.now _) (fun c2 => Ev.ite3 (fun _ => Ev.now _) (fun c3 => Ev.ite3 (fun _ => Ev.now _) (fun c4 => Ev.ite3 (fun c => prod_ev n ks fx (t (.inl c))) (fun c8 => Ev.ite3 (fun c => ?_) (fun c11 => Ev.ite3 (fun c => ?_) (fun c13 => Ev.ite3 (fun c => ?_) (fun c15 => Ev.ite3 (fun c => ?_) (fun c16 => ?_)))))))))
  · have h0 := o (by omega)
    unfold units_node_counted.f
    refine Ev.ifp (by omega) (Ev.pre (count_f _) ?_)
    by_cases q : rd ks 0 ≥ 2
    · exact Ev.ifp (decide_eq_true q) (Ev.both (Ev.now _) (if_pos q).symm)
    · exact Ev.ifn (by simpa using q) (Ev.both (Ev.now _) (if_neg q).symm)
  · have h0 := o (by omega)
    unfold units_node_priced.f
    refine Ev.ifp (by omega) (Ev.pre (count_f _) ?_)
    by_cases q : rd ks 0 ≥ 2
    · exact Ev.ifp (decide_eq_true q) (Ev.both (Ev.now _) (if_pos q).symm)
    · exact Ev.ifn (by simpa using q) (Ev.both (Ev.now _) (if_neg q).symm)
  · have h0 := o (by omega)
    unfold units_node_off.f
    exact Ev.ifp (by omega) (Ev.ite2 (Ev.now _) (Ev.now _))
  · have h0 := o (by omega)
    have h1 := t (.inr c)
    unfold units_node_test.f
    refine Ev.ifp (by omega) (Ev.pre (count_f _) ?_)
    by_cases q : rd ks 0 ≥ 2
    · refine Ev.ifp (decide_eq_true q) ?_
      rw [if_pos q]
      exact Ev.bind (one_ev n ks fx 1 h1 hl) (Ev.now _)
    · exact Ev.ifn (by simpa using q) (Ev.both (Ev.now _) (if_neg q).symm)
  · by_cases q : 5 ≤ n.f0 ∧ n.f0 ≤ 10
    · refine Ev.ifp q ?_
      unfold units_node_alike.f
      exact Ev.bind (one_ev n ks fx 0 (o (by omega)) hl) (Ev.now _)
    · omega
end Go.Proofs.YthbnigjckjkmnaaDoor.S

namespace Go.Proofs.YthbnigjckjkmnaaDoor.S
open Go.RowKit Go.Proofs.YthbnigjckjkmnaaDoorW.PrintWords Go.Proofs.YthbnigjckjkmnaaDoorW.PrintLast Go.Proofs.YthbnigjckjkmnaaDoorW.PrintMore Go.Proofs.YthbnigjckjkmnaaDoor.Pure
def H : List Nd → Nat → Int
  | _, 0 => 0
  | [], _ + 1 => 0
  | n :: r, i + 1 => 1 - tkOf n + H r i
theorem H_zero (l : List Nd) : H l 0 = 0 := by cases l <;> rfl
theorem H_succ (l : List Nd) : ∀ (i : Nat) (h : i < l.length), H l (i + 1) = H l i + (1 - tkOf l[i]) := by
  induction l with
  | nil => intro i h; simp at h
  | cons n r ih =>
    intro i h
    cases i with
    | zero => simp [H, H_zero]
    | succ j =>
      have := ih j (by simpa using h)
      simp only [H, List.getElem_cons_succ] at this ⊢
      omega
structure Good (l : List Nd) (dims : Int) : Prop where
  ok : ∀ (i : Nat) (h : i < l.length), nodeErr l[i] dims (H l i) = 0
  one : H l l.length = 1
theorem good_of (dims : Int) (tot : Nat) (l : List Nd) : ∀ (r : List Nd) (i : Nat), l.drop i = r → i ≤ l.length → (∀ (t : Nat) (h : t < i) (h' : t < l.length), nodeErr l[t] dims (H l t) = 0) → checkL dims tot r i (H l i) = (0, 0) → Good l dims := by
  intro r
  induction r with
  | nil =>
    intro i hr hi ho hc
    have hl : i = l.length := by
      have := List.drop_eq_nil_iff.1 hr
      omega
    subst hl
    unfold checkL at hc
    split at hc
    · rename_i hp
      exact ⟨fun t h => ho t h h, hp⟩
    · simp at hc
  | cons n r ih =>
    intro i hr hi ho hc
    obtain ⟨h1, h2⟩ := checkL_step hc
    have hlt : i < l.length := by
      rcases Nat.lt_or_ge i l.length with h | h
      · exact h
      · rw [List.drop_of_length_le h] at hr; cases hr
    rw [List.drop_eq_getElem_cons hlt] at hr
    injection hr with e1 e2
    refine ih (i + 1) e2 hlt (fun t h h' => ?_) (by rw [H_succ l i hlt, e1]; exact h2)
    rcases Nat.lt_or_ge t i with q | q
    · exact ho t q h'
    · obtain rfl : t = i := by omega
      rw [e1]; exact h1
theorem good_chk {a0 : ByteArray} {l1 : List Dm} {a2 : Int} {l3 : List Nd} (h : (chk a0 l1 a2 l3).2 = 0) : Good l3 l1.length := by
  obtain ⟨_, _, hc, _⟩ := chk_ok h
  exact good_of l1.length l3.length l3 l3 0 rfl (by omega) (fun t h _ => absurd h (by omega)) (by rw [H_zero]; exact hc)
def Starts (l : List Nd) (i j : Nat) : Prop := j ≤ i ∧ H l j = H l (i + 1) - 1 ∧ ∀ s, j < s → s ≤ i → H l (i + 1) - 1 < H l s
theorem frL_spec {l : List Nd} {dims : Int} (g : Good l dims) : ∀ (r : List Nd) (i : Nat) (acc pile : List Int), l.drop i = r → i ≤ l.length → acc.length = i → (pile.length : Int) = H l i →
    (∀ (p : Nat) (h : p < pile.length), ∃ j : Nat, pile[p] = (j : Int) ∧ j < i ∧ H l j = p ∧ ∀ t, j < t → t ≤ i → (p : Int) < H l t) →
    (∀ (t : Nat) (h : t < acc.length), ∃ j : Nat, acc[t] = (j : Int) ∧ Starts l t j) →
    (frL r i acc pile).length = l.length ∧ ∀ (t : Nat) (h : t < (frL r i acc pile).length), ∃ j : Nat, (frL r i acc pile)[t] = (j : Int) ∧ Starts l t j := by
  intro r
  induction r with
  | nil =>
    intro i acc pile hr hi ha hp hP hQ
    have hl : l.length ≤ i := List.drop_eq_nil_iff.1 hr
    exact ⟨by rw [frL]; omega, fun t h => hQ t (by rw [frL] at h; exact h)⟩
  | cons n r ih =>
    intro i acc pile hr hi ha hp hP hQ
    have hlt : i < l.length := by
      rcases Nat.lt_or_ge i l.length with h | h
      · exact h
      · rw [List.drop_of_length_le h] at hr; cases hr
    rw [List.drop_eq_getElem_cons hlt] at hr
    injection hr with e1 e2
    obtain ⟨_, _, h3, h4⟩ := node_ok (g.ok i hlt)
    have hs := H_succ l i hlt
    rw [e1] at h3 h4 hs
    rw [frL]
    by_cases h0 : tkOf n > 0
    · rw [if_pos h0]
      obtain ⟨m, hm⟩ := Int.eq_ofNat_of_zero_le (show 0 ≤ (pile.length : Int) - tkOf n by omega)
      rw [hm, Int.toNat_natCast]
      have hml : m < pile.length := by omega
      obtain ⟨j, q1, q2, q3, q4⟩ := hP m hml
      have hg : pile.getD m 0 = (j : Int) := by rw [List.getD_eq_getElem?_getD, List.getElem?_eq_getElem hml]; exact q1
      rw [hg]
      have htk : (pile.take m).length = m := by rw [List.length_take]; omega
      refine ih (i + 1) _ _ e2 hlt (by simp; omega) (by simp only [List.length_append, htk, List.length_cons, List.length_nil]; omega) ?_ ?_
      · intro p hp'
        have hp2 : p < m + 1 := by simp only [List.length_append, htk, List.length_cons, List.length_nil] at hp'; omega
        rcases Nat.lt_or_ge p m with c | c
        · obtain ⟨j', w1, w2, w3, w4⟩ := hP p (by omega)
          refine ⟨j', ?_, by omega, w3, fun t a b => ?_⟩
          · rw [List.getElem_append_left (by rw [htk]; exact c), List.getElem_take]; exact w1
          · rcases Nat.lt_or_ge i t with d | d
            · obtain rfl : t = i + 1 := by omega
              omega
            · exact w4 t a d
        · obtain rfl : p = m := by omega
          refine ⟨j, ?_, by omega, q3, fun t a b => ?_⟩
          · rw [List.getElem_append_right (by rw [htk]; exact Nat.le_refl _)]; simp [htk]
          · rcases Nat.lt_or_ge i t with d | d
            · obtain rfl : t = i + 1 := by omega
              omega
            · exact q4 t a d
      · intro t ht
        rcases Nat.lt_or_ge t acc.length with c | c
        · obtain ⟨j', w1, w2⟩ := hQ t c
          exact ⟨j', by rw [List.getElem_append_left c]; exact w1, w2⟩
        · obtain rfl : t = i := by simp at ht; omega
          refine ⟨j, by rw [List.getElem_append_right c]; simp, by omega, by omega, fun s a b => ?_⟩
          have := q4 s a b
          omega
    · rw [if_neg h0]
      have hz : tkOf n = 0 := by omega
      refine ih (i + 1) _ _ e2 hlt (by simp; omega) (by simp; omega) ?_ ?_
      · intro p hp'
        rcases Nat.lt_or_ge p pile.length with c | c
        · obtain ⟨j', w1, w2, w3, w4⟩ := hP p c
          refine ⟨j', by rw [List.getElem_append_left c]; exact w1, by omega, w3, fun t a b => ?_⟩
          rcases Nat.lt_or_ge i t with d | d
          · obtain rfl : t = i + 1 := by omega
            omega
          · exact w4 t a d
        · obtain rfl : p = pile.length := by simp at hp'; omega
          refine ⟨i, by rw [List.getElem_append_right c]; simp, by omega, by omega, fun t a b => ?_⟩
          obtain rfl : t = i + 1 := by omega
          omega
      · intro t ht
        rcases Nat.lt_or_ge t acc.length with c | c
        · obtain ⟨j', w1, w2⟩ := hQ t c
          exact ⟨j', by rw [List.getElem_append_left c]; exact w1, w2⟩
        · obtain rfl : t = i := by simp at ht; omega
          exact ⟨t, by rw [List.getElem_append_right c]; simp, by omega, by omega, fun s a b => absurd b (by omega)⟩
theorem frs_spec {l : List Nd} {dims : Int} (g : Good l dims) : (frs l).length = l.length ∧ ∀ (t : Nat) (h : t < (frs l).length), ∃ j : Nat, (frs l)[t] = (j : Int) ∧ Starts l t j :=
  frL_spec g l 0 [] [] rfl (by omega) rfl (by rw [H_zero]; rfl) (fun p h => absurd h (by simp)) (fun t h => absurd h (by simp))
def seg (l : List Nd) (i j : Nat) : List Nd := (l.take (i + 1)).drop j
theorem seg_len (l : List Nd) (i j : Nat) (h : i < l.length) : (seg l i j).length = i + 1 - j := by simp [seg]; omega
end Go.Proofs.YthbnigjckjkmnaaDoor.S

namespace Go.Proofs.YthbnigjckjkmnaaDoor.S
open Go.RowKit Go.Proofs.YthbnigjckjkmnaaDoorW.PrintWords Go.Proofs.YthbnigjckjkmnaaDoorW.PrintLast Go.Proofs.YthbnigjckjkmnaaDoorW.PrintMore Go.Proofs.YthbnigjckjkmnaaDoor.Pure
def isV (n : Nd) : Bool := n.f0 == 3 || n.f0 == 4
def cns (l : List Nd) : List Bool := (List.range l.length).map (fun t => !((seg l t ((frs l).getD t 0).toNat).any isV))
theorem cns_len (l : List Nd) : (cns l).length = l.length := by simp [cns]
theorem cns_at {l : List Nd} (i j : Nat) (h : i < l.length) (hf : (frs l).getD i 0 = (j : Int)) : (cns l)[i]'(by rw [cns_len]; exact h) = !((seg l i j).any isV) := by
  simp only [cns, List.getElem_map, List.getElem_range, hf, Int.toNat_natCast]
theorem frs_getD {l : List Nd} (i j : Nat) (h : i < (frs l).length) (q : (frs l)[i] = (j : Int)) : (frs l).getD i 0 = (j : Int) := by
  rw [List.getD_eq_getElem?_getD, List.getElem?_eq_getElem h]; exact q
def Last (l : List Nd) (i : Nat) (x : Int) : Prop := -1 ≤ x ∧ x < i ∧ (∀ (t : Nat) (h : t < l.length), (t : Int) = x → isV l[t] = true) ∧ ∀ (t : Nat) (h : t < l.length), x < t → t < i → isV l[t] = false
theorem last_const {l : List Nd} (i j : Nat) (h : i < l.length) (hj : j ≤ i) (x : Int) (hx : Last l (i + 1) x) : decide (x < (j : Int)) = !((seg l i j).any isV) := by
  obtain ⟨x1, x2, x3, x4⟩ := hx
  by_cases c : x < (j : Int)
  · rw [decide_eq_true c]
    have : (seg l i j).any isV = false := by
      rw [List.any_eq_false]
      intro n hn
      obtain ⟨t, ht, e⟩ := List.getElem_of_mem hn
      rw [seg_len l i j h] at ht
      simp only [seg, List.getElem_drop, List.getElem_take] at e
      rw [← e, x4 (j + t) (by omega) (by omega) (by omega)]
      decide
    rw [this]; rfl
  · rw [decide_eq_false c]
    obtain ⟨t, rfl⟩ := Int.eq_ofNat_of_zero_le (show 0 ≤ x by omega)
    have : (seg l i j).any isV = true := by
      rw [List.any_eq_true]
      refine ⟨l[t], ?_, x3 t (by omega) rfl⟩
      have hs : t - j < (seg l i j).length := by rw [seg_len l i j h]; omega
      have : (seg l i j)[t - j] = l[t] := by
        simp only [seg, List.getElem_drop, List.getElem_take]
        congr 1
        omega
      rw [← this]
      exact List.getElem_mem hs
    rw [this]; rfl
theorem const_l0 {l : List Nd} {dims : Int} (g : Good l dims) (hl : l.length ≤ 1024) (d : Nat) : ∀ (i : Nat) (x : Int), i + d = l.length → Last l i x →
    Ev (fun k => zAV.l0 k (frs l) x ((cns l).take i ++ List.replicate (l.length - i) false) l (l.length : Int) (i : Int)) (cns l, 0) := by
  obtain ⟨f1, f2⟩ := frs_spec g
  have hcl := cns_len l
  induction d with
  | zero =>
    intro i x hi hx
    rw [List.take_of_length_le (by omega), show l.length - i = 0 by omega, List.replicate_zero, List.append_nil]
    exact Ev.step (f := fun _ => some (cns l, 0)) (fun k => by simp only [zAV.l0]; rw [if_neg (by omega)]) (Ev.now _)
  | succ d ih =>
    intro i x hi hx
    have h : i < l.length := by omega
    obtain ⟨j, q1, q2⟩ := f2 i (by omega)
    have hlen : ((cns l).take i ++ List.replicate (l.length - i) false).length = l.length := by simp [hcl]; omega
    have hF : rd (frs l) (i : Int) = (j : Int) := by rw [rdI (frs l) i (by omega)]; exact q1
    have hset : ∀ b : Bool, b = (!((seg l i j).any isV)) → ((cns l).take i ++ List.replicate (l.length - i) false).set i b = (cns l).take (i + 1) ++ List.replicate (l.length - (i + 1)) false := by
      intro b hb
      rw [show l.length - i = (l.length - (i + 1)) + 1 by omega, List.replicate_succ, List.set_append_right _ _ (by rw [List.length_take]; omega)]
      rw [show i - ((cns l).take i).length = 0 by rw [List.length_take]; omega, List.set_cons_zero, List.take_succ_eq_append_getElem (by omega), cns_at i j h (frs_getD i j (by omega) q1), hb, List.append_assoc]
      rfl
    obtain ⟨x1, x2, x3, x4⟩ := hx
    have go : ∀ y : Int, Last l (i + 1) y → Ev (fun k => zAV.l0 k (frs l) y (((cns l).take i ++ List.replicate (l.length - i) false).set i (decide (y < (j : Int)))) l (l.length : Int) ((i + 1 : Nat) : Int)) (cns l, 0) := by
      intro y hy
      rw [hset _ (last_const i j h q2.1 y hy)]
      exact ih (i + 1) y (by omega) hy
    have lv : isV l[i] = true → Last l (i + 1) (i : Int) := fun hv => ⟨by omega, by omega, (fun t ht e => by
      obtain rfl : t = i := by omega
      exact hv), (fun t ht a b => by omega)⟩
    refine Ev.step (fun k => by simp only [zAV.l0]; rw [if_pos (by omega), if_pos (by omega), if_pos (by omega), rdN l i h, w_up i (by omega), hF, Int.toNat_natCast, hlen]) ?_
    by_cases c3 : l[i].f0 = 3
    · exact Ev.ifp c3 (Ev.ifp (by omega) (Ev.ifp (by omega) (go _ (lv (by simp [isV, c3])))))
    · refine Ev.ifn c3 ?_
      by_cases c4 : l[i].f0 = 4
      · exact Ev.ifp c4 (Ev.ifp (by omega) (Ev.ifp (by omega) (go _ (lv (by simp [isV, c4])))))
      · refine Ev.ifn c4 (Ev.ifp (by omega) (Ev.ifp (by omega) (go _ ⟨x1, by omega, x3, fun t ht a b => ?_⟩)))
        rcases Nat.lt_or_ge t i with q | q
        · exact x4 t ht a q
        · obtain rfl : t = i := by omega
          simp [isV, c3, c4]
theorem const_ev {a0 : ByteArray} {l1 : List Dm} (a2 : Int) {l3 : List Nd} (h : PB a0 l1 l3) : Ev (fun k => zAV.f k a0 l1 a2 l3) (if (chk a0 l1 a2 l3).2 = 0 then (cns l3, 0) else ([], (chk a0 l1 a2 l3).2)) := by
  unfold zAV.f
  have hf := firsts_ev a2 h
  by_cases hc : (chk a0 l1 a2 l3).2 = 0
  · rw [if_pos hc] at hf ⊢
    have g := good_chk hc
    obtain ⟨_, hl, _, _⟩ := chk_ok hc
    obtain ⟨f1, f2⟩ := frs_spec g
    refine Ev.bind hf ?_
    dsimp only
    rw [f1, Int.toNat_natCast]
    refine Ev.ifp rfl (Ev.ifp (by omega) (Ev.ifp (by omega) ?_))
    exact const_l0 g hl l3.length 0 (-1) (by omega) ⟨by omega, by omega, fun t ht e => by omega, fun t ht a b => by omega⟩
  · rw [if_neg hc] at hf ⊢
    exact Ev.bind hf (Ev.ifn hc (Ev.now _))
end Go.Proofs.YthbnigjckjkmnaaDoor.S

namespace Go.Proofs.YthbnigjckjkmnaaDoor.S
open Go.RowKit Go.Proofs.YthbnigjckjkmnaaDoorW.PrintWords Go.Proofs.YthbnigjckjkmnaaDoorW.PrintLast Go.Proofs.YthbnigjckjkmnaaDoorW.PrintMore Go.Proofs.YthbnigjckjkmnaaDoor.Pure
def kids {α : Type} (n : Nd) (pl : List α) : List α := pl.drop (pl.length - (tkOf n).toNat)
def rest {α : Type} (n : Nd) (pl : List α) : List α := pl.take (pl.length - (tkOf n).toNat)
def fixV (n : Nd) (fs : List Bool) : Bool := fs.all id && !isV n
def tyR : List Nd → Nat → List Int → List Int → List Bool → List Int × Int × Int
  | [], _, out, pl, _ => if rd pl 0 = 1 then (out, 0, 0) else ([], wrap64 ((out.length : Int) - 1), 80)
  | n :: r, i, out, pl, fx =>
    if tyv n (kids n pl) = -1 then ([], (i : Int), 80)
    else if n.f0 = 8 ∧ rdOf false (kids n fx) 0 = false ∧ rdOf false (kids n fx) 1 = false then ([], (i : Int), 81)
    else tyR r (i + 1) (out ++ [tyv n (kids n pl)]) (rest n pl ++ [tyv n (kids n pl)]) (rest n fx ++ [fixV n (kids n fx)])
def Ch (l : List Nd) : Nat → List Nat → Prop
  | j, [] => j = 0
  | j, p :: r => j = p + 1 ∧ ∃ f, Starts l p f ∧ Ch l f r
theorem Ch.lt {l : List Nd} : ∀ (rs : List Nat) (j : Nat), Ch l j rs → ∀ p ∈ rs, p < j
  | [], _, _ => fun p hp => by cases hp
  | q :: r, j, h => by
    obtain ⟨e, f, hs, hc⟩ := h
    have hq := hs.1
    intro p hp
    rcases List.mem_cons.1 hp with rfl | hp
    · omega
    · have := Ch.lt r f hc p hp
      omega
theorem starts_one {l : List Nd} {i j j' : Nat} (h : Starts l i j) (h' : Starts l i j') : j = j' := by
  obtain ⟨a1, a2, a3⟩ := h
  obtain ⟨b1, b2, b3⟩ := h'
  rcases Nat.lt_trichotomy j j' with q | q | q
  · have := a3 j' q b1; omega
  · exact q
  · have := b3 j q a1; omega
theorem Ch.pop {l : List Nd} {C : Nat → Bool} (hC : ∀ p f, p < l.length → Starts l p f → C p = !((seg l p f).any isV)) : ∀ (k : Nat) (rs : List Nat) (i : Nat), Ch l i rs → i ≤ l.length → k ≤ rs.length →
    ∃ j, Ch l j (rs.drop k) ∧ j ≤ i ∧ H l j = H l i - k ∧ (∀ s, j < s → s ≤ i → H l j < H l s) ∧ ((l.take i).drop j).any isV = (rs.take k).any (fun p => !C p)
  | 0, rs, i, h, hi, hk => ⟨i, h, Nat.le_refl _, by omega, fun s a b => by omega, by rw [List.drop_of_length_le (by rw [List.length_take]; omega)]; rfl⟩
  | k + 1, [], i, h, hi, hk => by simp at hk
  | k + 1, p :: r, i, h, hi, hk => by
    obtain ⟨e, f, hs, hc⟩ := h
    obtain ⟨s1, s2, s3⟩ := id hs
    subst e
    obtain ⟨j, j1, j2, j3, j4, j5⟩ := Ch.pop hC k r f hc (by omega) (by simpa using hk)
    refine ⟨j, j1, by omega, by omega, fun s a b => ?_, ?_⟩
    · rcases Nat.lt_or_ge f s with q | q
      · rcases Nat.lt_or_ge p s with q' | q'
        · obtain rfl : s = p + 1 := by omega
          omega
        · have := s3 s q q'; omega
      · exact j4 s a q
    · have hcut : (l.take (p + 1)).drop j = (l.take f).drop j ++ seg l p f := by
        have e1 : l.take (p + 1) = l.take f ++ seg l p f := by
          rw [← List.take_append_drop f (l.take (p + 1)), List.take_take, Nat.min_eq_left (by omega)]
          rfl
        rw [e1, List.drop_append_of_le_length (by rw [List.length_take]; omega)]
      rw [hcut, List.any_append, j5, List.take_succ_cons, List.any_cons, hC p f (by omega) hs, Bool.not_not, Bool.or_comm]
def C (l : List Nd) (p : Nat) : Bool := (cns l).getD p false
theorem cns_of {l : List Nd} {dims : Int} (g : Good l dims) (p f : Nat) (h : p < l.length) (hs : Starts l p f) : C l p = !((seg l p f).any isV) := by
  obtain ⟨f1, f2⟩ := frs_spec g
  obtain ⟨j, q1, q2⟩ := f2 p (by omega)
  obtain rfl := starts_one hs q2
  unfold C
  rw [List.getD_eq_getElem?_getD, List.getElem?_eq_getElem (by rw [cns_len]; exact h), Option.getD_some]
  exact cns_at p f h (frs_getD p f (by omega) q1)
structure UInv (l : List Nd) (i : Nat) (out pl : List Int) (fx : List Bool) (rs : List Nat) : Prop where
  ch : Ch l i rs
  pl : pl = (rs.map (fun p => out.getD p 0)).reverse
  fx : fx = (rs.map (C l)).reverse
  out : out.length = i
theorem kids_rev {α : Type} (n : Nd) (rs : List Nat) (f : Nat → α) (h : (tkOf n).toNat ≤ rs.length) : kids n (rs.map f).reverse = ((rs.take (tkOf n).toNat).map f).reverse ∧ rest n (rs.map f).reverse = ((rs.drop (tkOf n).toNat).map f).reverse := by
  unfold kids rest
  rw [List.drop_reverse, List.take_reverse]
  simp only [List.length_reverse, List.length_map]
  rw [show rs.length - (rs.length - (tkOf n).toNat) = (tkOf n).toNat by omega, List.map_take, List.map_drop]
  exact ⟨rfl, rfl⟩
theorem UInv.step {l : List Nd} {dims : Int} (g : Good l dims) {i : Nat} {out pl : List Int} {fx : List Bool} {rs : List Nat} (h : UInv l i out pl fx rs) (hi : i < l.length) (hk : (tkOf l[i]).toNat ≤ rs.length) (h0 : 0 ≤ tkOf l[i]) (t : Int) :
    C l i = fixV l[i] (kids l[i] fx) ∧ UInv l (i + 1) (out ++ [t]) (rest l[i] pl ++ [t]) (rest l[i] fx ++ [fixV l[i] (kids l[i] fx)]) (i :: rs.drop (tkOf l[i]).toNat) := by
  obtain ⟨h1, h2, h3, h4⟩ := h
  obtain ⟨j, j1, j2, j3, j4, j5⟩ := Ch.pop (C := C l) (fun p f a b => cns_of g p f a b) (tkOf l[i]).toNat rs i h1 (by omega) hk
  have hH := H_succ l i hi
  have hs : Starts l i j := ⟨j2, by omega, fun s a b => by have := j4 s a b; omega⟩
  have hc : C l i = fixV l[i] (kids l[i] fx) := by
    rw [cns_of g i j hi hs, h3, (kids_rev l[i] rs (C l) hk).1]
    unfold fixV
    have e : seg l i j = (l.take i).drop j ++ [l[i]] := by
      unfold seg
      rw [List.take_succ_eq_append_getElem hi, List.drop_append_of_le_length (by rw [List.length_take]; omega)]
    rw [e, List.any_append, j5, List.any_cons, List.any_nil, Bool.or_false, Bool.not_or]
    congr 1
    rw [List.all_reverse, List.all_map, List.all_eq_not_any_not]
    rfl
  refine ⟨hc, ⟨rfl, j, hs, j1⟩, ?_, ?_, by simp [h4]⟩
  · rw [h2, (kids_rev l[i] rs _ hk).2, List.map_cons, List.reverse_cons]
    congr 1
    · congr 1
      refine List.map_congr_left fun p hp => ?_
      have := Ch.lt rs i h1 p (List.mem_of_mem_drop hp)
      simp only [List.getD_eq_getElem?_getD]
      rw [List.getElem?_append_left (by omega)]
    · simp only [List.getD_eq_getElem?_getD]
      rw [List.getElem?_append_right (by omega), h4, Nat.sub_self]
      rfl
  · rw [List.map_cons, List.reverse_cons, ← hc, h3, (kids_rev l[i] rs _ hk).2]
theorem takes_k {n : Nd} (h : 1 ≤ n.f0 ∧ n.f0 ≤ 16) {dims : Int} (hf : fieldsB n dims = true) :
    (kidsOf n.f0 < 0 → tkOf n = n.f3) ∧ (0 ≤ kidsOf n.f0 → tkOf n = kidsOf n.f0) ∧ (5 ≤ n.f0 → 0 < tkOf n) ∧ (n.f0 = 8 ∨ n.f0 = 16 → 1 < tkOf n) ∧ 0 ≤ tkOf n ∧ tkOf n ≤ 16 ∧ (n.f0 = 8 → tkOf n = 2) := by
  have h3 : tk n.f0 < 0 → n.f3 ≥ 2 ∧ n.f3 ≤ 16 := fun hq => by
    unfold fieldsB at hf
    simp only [Bool.and_eq_true] at hf
    have h5 := hf.2.2.2.1
    rw [if_pos hq] at h5
    simpa using h5
  obtain ⟨n0, n1, n2, n3, n4, n5⟩ := n
  dsimp only at h h3
  clear hf
  unfold tkOf
  dsimp only
  rcases kind_cases n0 with q | rfl | rfl | rfl | rfl | rfl | rfl | rfl | rfl | rfl | rfl | rfl | rfl | rfl | rfl | rfl | rfl
  · omega
  all_goals simp [tk, tkL, kidsOf] at h3 ⊢
  all_goals omega
theorem kids_ok {n : Nd} {dims : Int} {pl : List Int} (h : nodeErr n dims pl.length = 0) (hl : pl.length ≤ 1024) : Kids n (kids n pl) := by
  obtain ⟨hk, hf, h3, h4⟩ := node_ok h
  obtain ⟨_, _, h5, h6, _, _, _⟩ := takes_k hk hf
  have hlen : ((kids n pl).length : Int) = tkOf n := by unfold kids; rw [List.length_drop]; omega
  exact ⟨hk, fun q => by have := h5 q; omega, fun q => by have := h6 q; omega, by omega⟩
theorem rules_f {n : Nd} (h : 1 ≤ n.f0 ∧ n.f0 ≤ 16) : units_rules.f n.f0 = some (n.f0, kidsOf n.f0) := by
  unfold units_rules.f
  rw [if_pos h]
theorem kids_rd (n : Nd) (fx : List Bool) (z : Nat) (h : (tkOf n).toNat ≤ fx.length) : rdOf false (kids n fx) (z : Int) = rdOf false fx ((fx.length - (tkOf n).toNat + z : Nat) : Int) := by
  unfold kids rdOf
  rw [Int.toNat_natCast, Int.toNat_natCast, List.getD_eq_getElem?_getD, List.getD_eq_getElem?_getD, List.getElem?_drop]
end Go.Proofs.YthbnigjckjkmnaaDoor.S
