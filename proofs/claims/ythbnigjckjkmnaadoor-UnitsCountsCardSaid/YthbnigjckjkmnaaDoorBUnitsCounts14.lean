/- What the proof needs, part 14 of 18. Which counts add up: two counts of one dimension and one kind, with prices on it, have types, others none; a count and money never. For all numbers and truths that the card lets in. -/
import Derived.Test.YthbnigjckjkmnaaDoorBUnitsCounts5
import Derived.Test.YthbnigjckjkmnaaDoorBUnitsCounts13
import Derived.Test.YthbnigjckjkmnaaDoorBUnitsCounts6
import Derived.Test.YthbnigjckjkmnaaDoorBUnitsCounts12
import Derived.Test.YthbnigjckjkmnaaDoorBUnitsCounts8
set_option linter.unusedVariables false
set_option linter.unusedSimpArgs false
namespace Go.Proofs.YthbnigjckjkmnaaDoor.S
open Go.RowKit Go.Proofs.YthbnigjckjkmnaaDoorW.PrintWords Go.Proofs.YthbnigjckjkmnaaDoorW.PrintLast Go.Proofs.YthbnigjckjkmnaaDoorW.PrintMore
attribute [local go_sem] max2_int min2_int max_two min_two max_three min_three max_four min_four
mutual
def zAF.j0:Nat→Bool→Int→Int→Int→Int→Int→Int→Int→Int→Int→Int→Option (Bool)
 |0,_,_,_,_,_,_,_,_,_,_,_=>none
 |k+1,x3,x854000,x854001,x854002,x854003,x854005,x855000,x855001,x855002,x855003,x855005=>if x3=true then (zAF.j1 k x854000 x854001 x854002 x854003 x854005 4 x855001 x855002 x855003 x855005) else (zAF.j1 k x854000 x854001 x854002 x854003 x854005 x855000 x855001 x855002 x855003 x855005)
def zAF.j1:Nat→Int→Int→Int→Int→Int→Int→Int→Int→Int→Int→Option (Bool)
 |0,_,_,_,_,_,_,_,_,_,_=>none
 |k+1,x854000,x854001,x854002,x854003,x854005,x855000,x855001,x855002,x855003,x855005=>(some (([(⟨(⟨#[97]⟩:ByteArray),1⟩:S47),(⟨(⟨#[98]⟩:ByteArray),2⟩:S47),(⟨(⟨#[99]⟩:ByteArray),3⟩:S47),(⟨(⟨#[100]⟩:ByteArray),4⟩:S47)]:List (S47)):List (S47))).bind fun y855=>((some (([(⟨x854000,x854001,x854002,x854003,([]:List (S45)),x854005⟩:S33),(⟨x855000,x855001,x855002,x855003,([]:List (S45)),x855005⟩:S33),(⟨6,0,0,0,([]:List (S45)),0⟩:S33),(⟨13,0,0,0,(([(⟨0,5⟩:S45)]:List (S45))),0⟩:S33)]:List (S33)):List (S33))).bind fun y862=>((zAG.f k (⟨#[112]⟩:ByteArray) y855 0 y862).bind fun bt865=>(if x854000=x855000 then (zAF.j2 k bt865.1 bt865.2.1 bt865.2.2 (x854001 != x855001) x854000 x854001 x854002 x854003 x854005 (⟨#[112]⟩:ByteArray) y855 0 y862) else (zAF.j2 k bt865.1 bt865.2.1 bt865.2.2 true x854000 x854001 x854002 x854003 x854005 (⟨#[112]⟩:ByteArray) y855 0 y862))))
def zAF.j2:Nat→List Int→Int→Int→Bool→Int→Int→Int→Int→Int→ByteArray→List (S47)→Int→List (S33)→Option (Bool)
 |0,_,_,_,_,_,_,_,_,_,_,_,_,_=>none
 |k+1,x12,x13,x14,x62,x854000,x854001,x854002,x854003,x854005,x859000,x859001,x859002,x859003=>if x62=true then (if x14=80 then (if x13=2 then ((zAG.f k x859000 x859001 x859002 (([(⟨x854000,x854001,x854002,x854003,([]:List (S45)),x854005⟩:S33),(⟨2,1,0,0,([]:List (S45)),0⟩:S33),(⟨6,0,0,0,([]:List (S45)),0⟩:S33)]:List (S33)))).bind fun bt873=>(if bt873.2.2=80 then (some (bt873.2.1 == 2)) else (some false))) else (some false)) else (some false)) else (if x14=0 then (if (x12.length:Int)=4 then (if 0<(x12.length:Int) then (if 1<(x12.length:Int) then (if (rd x12 0)=(rd x12 1) then (if 2<(x12.length:Int) then (if (rd x12 2)=(rd x12 0) then (if 3<(x12.length:Int) then (if (rd x12 3)=1 then (if (rd x12 0)=(wrap64 ((wrap64 ((wrap64 (2 * x854001))+x854000)) - 1)) then ((zAG.f k x859000 x859001 x859002 (([(⟨x854000,x854001,x854002,x854003,([]:List (S45)),x854005⟩:S33),(⟨2,1,0,0,([]:List (S45)),0⟩:S33),(⟨6,0,0,0,([]:List (S45)),0⟩:S33)]:List (S33)))).bind fun bt887=>(if bt887.2.2=80 then (some (bt887.2.1 == 2)) else (some false))) else (some false)) else (some false)) else (none)) else (some false)) else (none)) else (some false)) else (none)) else (none)) else (some false)) else (some false))
end
def zAF.f (k:Nat) (a0:Int) (a1:Int) (a2:Bool) (a3:Bool):Option (Bool):=(octroilaw08_awake.f k).bind fun t852=>(if t852=true then (if a2=true then (zAF.j0 k a3 4 (wrap64 (Int.tmod (IntKind.u64.wrap (a0)) 4)) 0 0 0 3 (wrap64 (Int.tmod (IntKind.u64.wrap (a1)) 4)) 0 0 0) else (zAF.j0 k a3 3 (wrap64 (Int.tmod (IntKind.u64.wrap (a0)) 4)) 0 0 0 3 (wrap64 (Int.tmod (IntKind.u64.wrap (a1)) 4)) 0 0 0)) else (some false))
theorem zAF.mono_l:∀ k,(∀ y0 y1 y2 y3 y4 y5 y6 y7 y8 y9 y10,LeO (zAF.j0 k y0 y1 y2 y3 y4 y5 y6 y7 y8 y9 y10) (zAF.j0 (k+1) y0 y1 y2 y3 y4 y5 y6 y7 y8 y9 y10))∧(∀ y0 y1 y2 y3 y4 y5 y6 y7 y8 y9,LeO (zAF.j1 k y0 y1 y2 y3 y4 y5 y6 y7 y8 y9) (zAF.j1 (k+1) y0 y1 y2 y3 y4 y5 y6 y7 y8 y9))∧(∀ y0 y1 y2 y3 y4 y5 y6 y7 y8 y9 y10 y11 y12,LeO (zAF.j2 k y0 y1 y2 y3 y4 y5 y6 y7 y8 y9 y10 y11 y12) (zAF.j2 (k+1) y0 y1 y2 y3 y4 y5 y6 y7 y8 y9 y10 y11 y12))
 |0=>⟨fun _ _ _ _ _ _ _ _ _ _ _ r h=>by simp [zAF.j0] at h,fun _ _ _ _ _ _ _ _ _ _ r h=>by simp [zAF.j1] at h,fun _ _ _ _ _ _ _ _ _ _ _ _ _ r h=>by simp [zAF.j2] at h⟩
 |k+1=>by
  obtain ⟨ih0,ih1,ih2⟩:=zAF.mono_l k
  refine ⟨?_,?_,?_⟩
  ·intro y0 y1 y2 y3 y4 y5 y6 y7 y8 y9 y10
   unfold zAF.j0
   repeat' first
   |(with_reducible exact ih0 _ _ _ _ _ _ _ _ _ _ _)
   |(with_reducible exact ih1 _ _ _ _ _ _ _ _ _ _)
   |(with_reducible exact ih2 _ _ _ _ _ _ _ _ _ _ _ _ _)
   |(with_reducible exact octroilaw08_awake.mono _)
   |(with_reducible exact zAG.mono _ _ _ _ _)
   |(with_reducible exact LeO.refl _)
   |(with_reducible exact LeO.none _)
   |(with_reducible refine LeO.ite ?_ ?_)
   |(with_reducible refine LeO.bind ?_ (fun _=>?_))
   |exact ih0 _ _ _ _ _ _ _ _ _ _ _
   |exact ih1 _ _ _ _ _ _ _ _ _ _
   |exact ih2 _ _ _ _ _ _ _ _ _ _ _ _ _
   |exact octroilaw08_awake.mono _
   |exact zAG.mono _ _ _ _ _
   |exact LeO.none _
   |refine LeO.ite ?_ ?_
   |refine LeO.bind ?_ (fun _=>?_)
  ·intro y0 y1 y2 y3 y4 y5 y6 y7 y8 y9
   unfold zAF.j1
   repeat' first
   |(with_reducible exact ih0 _ _ _ _ _ _ _ _ _ _ _)
   |(with_reducible exact ih1 _ _ _ _ _ _ _ _ _ _)
   |(with_reducible exact ih2 _ _ _ _ _ _ _ _ _ _ _ _ _)
   |(with_reducible exact octroilaw08_awake.mono _)
   |(with_reducible exact zAG.mono _ _ _ _ _)
   |(with_reducible exact LeO.refl _)
   |(with_reducible exact LeO.none _)
   |(with_reducible refine LeO.ite ?_ ?_)
   |(with_reducible refine LeO.bind ?_ (fun _=>?_))
   |exact ih0 _ _ _ _ _ _ _ _ _ _ _
   |exact ih1 _ _ _ _ _ _ _ _ _ _
   |exact ih2 _ _ _ _ _ _ _ _ _ _ _ _ _
   |exact octroilaw08_awake.mono _
   |exact zAG.mono _ _ _ _ _
   |exact LeO.none _
   |refine LeO.ite ?_ ?_
   |refine LeO.bind ?_ (fun _=>?_)
  ·intro y0 y1 y2 y3 y4 y5 y6 y7 y8 y9 y10 y11 y12
   unfold zAF.j2
   repeat' first
   |(with_reducible exact ih0 _ _ _ _ _ _ _ _ _ _ _)
   |(with_reducible exact ih1 _ _ _ _ _ _ _ _ _ _)
   |(with_reducible exact ih2 _ _ _ _ _ _ _ _ _ _ _ _ _)
   |(with_reducible exact octroilaw08_awake.mono _)
   |(with_reducible exact zAG.mono _ _ _ _ _)
   |(with_reducible exact LeO.refl _)
   |(with_reducible exact LeO.none _)
   |(with_reducible refine LeO.ite ?_ ?_)
   |(with_reducible refine LeO.bind ?_ (fun _=>?_))
   |exact ih0 _ _ _ _ _ _ _ _ _ _ _
   |exact ih1 _ _ _ _ _ _ _ _ _ _
   |exact ih2 _ _ _ _ _ _ _ _ _ _ _ _ _
   |exact octroilaw08_awake.mono _
   |exact zAG.mono _ _ _ _ _
   |exact LeO.none _
   |refine LeO.ite ?_ ?_
   |refine LeO.bind ?_ (fun _=>?_)
theorem zAF.mono:∀ a0 a1 a2 a3 k,LeO (zAF.f k a0 a1 a2 a3) (zAF.f (k+1) a0 a1 a2 a3):=by
 intro a0 a1 a2 a3 k
 obtain ⟨ih0,ih1,ih2⟩:=zAF.mono_l k
 unfold zAF.f
 repeat' first
   |(with_reducible exact ih0 _ _ _ _ _ _ _ _ _ _ _)
   |(with_reducible exact ih1 _ _ _ _ _ _ _ _ _ _)
   |(with_reducible exact ih2 _ _ _ _ _ _ _ _ _ _ _ _ _)
   |(with_reducible exact octroilaw08_awake.mono _)
   |(with_reducible exact zAG.mono _ _ _ _ _)
   |(with_reducible exact LeO.refl _)
   |(with_reducible exact LeO.none _)
   |(with_reducible refine LeO.ite ?_ ?_)
   |(with_reducible refine LeO.bind ?_ (fun _=>?_))
   |exact ih0 _ _ _ _ _ _ _ _ _ _ _
   |exact ih1 _ _ _ _ _ _ _ _ _ _
   |exact ih2 _ _ _ _ _ _ _ _ _ _ _ _ _
   |exact octroilaw08_awake.mono _
   |exact zAG.mono _ _ _ _ _
   |exact LeO.none _
   |refine LeO.ite ?_ ?_
   |refine LeO.bind ?_ (fun _=>?_)
set_option maxHeartbeats 8000000 in
set_option maxRecDepth 100000 in
theorem zAF.calls (k:Nat) (a0:Int) (a1:Int) (a2:Bool) (a3:Bool) (r:Bool) (w:World) (hG:GW w) (h:zAF.f k a0 a1 a2 a3=some r) :
  Calls Tryd.prog 13 #[.int .i64 a0,.int .i64 a1,.bool a2,.bool a3] w fun e w'=>e = .returned (.bool r)∧Below w.heap.size w w':=by
 have hu33:=Tryd.underlying33
 have hu47:=Tryd.underlying47
 have hu25:=Tryd.underlying25
 have hu45:=Tryd.underlying45
 have HB:=aK_ (Below.refl w.heap.size w)
 have H:((octroilaw08_awake.f k).bind fun t852=>(if t852=true then (if a2=true then (zAF.j0 k a3 4 (wrap64 (Int.tmod (IntKind.u64.wrap (a0)) 4)) 0 0 0 3 (wrap64 (Int.tmod (IntKind.u64.wrap (a1)) 4)) 0 0 0) else (zAF.j0 k a3 3 (wrap64 (Int.tmod (IntKind.u64.wrap (a0)) 4)) 0 0 0 3 (wrap64 (Int.tmod (IntKind.u64.wrap (a1)) 4)) 0 0 0)) else (some false)))=some r:=h
 clear h
 replace H:=Option.bind_eq_some_iff.mp H
 obtain ⟨t852,A50,H⟩:=H
 replace H:(if t852=true then (if a2=true then (zAF.j0 k a3 4 (wrap64 (Int.tmod (IntKind.u64.wrap (a0)) 4)) 0 0 0 3 (wrap64 (Int.tmod (IntKind.u64.wrap (a1)) 4)) 0 0 0) else (zAF.j0 k a3 3 (wrap64 (Int.tmod (IntKind.u64.wrap (a0)) 4)) 0 0 0 3 (wrap64 (Int.tmod (IntKind.u64.wrap (a1)) 4)) 0 0 0)) else (some false))=some r:=H
 have A5:=aK_ A50
 clear A50
 by_cases c6:t852=true
 rotate_left
 ·replace c6:=Bool.eq_false_iff.mpr c6
  subst c6
  have H1:(some false)=some r:=by rw [if_neg (show ¬ (false=true) by decide)] at H;exact H
  clear H
  have H:=H1
  clear H1
  obtain rfl:=Option.some.inj H
  go_enter Tryd.func13,Tryd.ntmps13
  go_wp2_with (first|(go_at_call 32;(with_reducible refine (octroilaw08_awake.calls k  false _ ?side1 A5.out).mono ?_);(case side1=>(first|(with_reducible exact hG)|((repeat (with_reducible first|exact hG|apply GW.drewN|apply GW.drew|apply GW.alloc));done)|exact GW.below hG (aH_ HB.out)));rintro e w116 ⟨rfl,hb⟩;have n0_:=aK_ (zAH (aH_ HB.out) hb);clear HB;have HB:=n0_;clear n0_;(try clear hb);(try clear hb2);(try clear hk);(try clear hi)))
  repeat (go_quiet (first|(go_at_call 32;(with_reducible refine (octroilaw08_awake.calls k  false _ ?side1 A5.out).mono ?_);(case side1=>(first|(with_reducible exact hG)|((repeat (with_reducible first|exact hG|apply GW.drewN|apply GW.drew|apply GW.alloc));done)|exact GW.below hG (aH_ HB.out)));rintro e w116 ⟨rfl,hb⟩;have n0_:=aK_ (zAH (aH_ HB.out) hb);clear HB;have HB:=n0_;clear n0_;(try clear hb);(try clear hb2);(try clear hk);(try clear hi)));try go_wp2_with (first|(go_at_call 32;(with_reducible refine (octroilaw08_awake.calls k  false _ ?side1 A5.out).mono ?_);(case side1=>(first|(with_reducible exact hG)|((repeat (with_reducible first|exact hG|apply GW.drewN|apply GW.drew|apply GW.alloc));done)|exact GW.below hG (aH_ HB.out)));rintro e w116 ⟨rfl,hb⟩;have n0_:=aK_ (zAH (aH_ HB.out) hb);clear HB;have HB:=n0_;clear n0_;(try clear hb);(try clear hb2);(try clear hk);(try clear hi))))
  go_ret
  exact ⟨by first|rfl|(simp [zAK,zAL] <;> rfl)|(simp [*,zAK,zAL] <;> rfl),aH_ HB.out⟩
 subst c6
 have H1:(if a2=true then (zAF.j0 k a3 4 (wrap64 (Int.tmod (IntKind.u64.wrap (a0)) 4)) 0 0 0 3 (wrap64 (Int.tmod (IntKind.u64.wrap (a1)) 4)) 0 0 0) else (zAF.j0 k a3 3 (wrap64 (Int.tmod (IntKind.u64.wrap (a0)) 4)) 0 0 0 3 (wrap64 (Int.tmod (IntKind.u64.wrap (a1)) 4)) 0 0 0))=some r:=by rw [if_pos rfl] at H;exact H
 clear H
 have H:=H1
 clear H1
 have HC7:=aK_ H
 clear H
 go_enter Tryd.func13,Tryd.ntmps13
 go_upto_if 27 with (first|(go_at_call 32;(with_reducible refine (octroilaw08_awake.calls k  true _ ?side1 A5.out).mono ?_);(case side1=>(first|(with_reducible exact hG)|((repeat (with_reducible first|exact hG|apply GW.drewN|apply GW.drew|apply GW.alloc));done)|exact GW.below hG (aH_ HB.out)));rintro e w8 ⟨rfl,hb⟩;have n0_:=aK_ (zAH (aH_ HB.out) hb);clear HB;have HB:=n0_;clear n0_;(try clear hb);(try clear hb2);(try clear hk);(try clear hi))|((with_reducible refine zAO (N:=9) rfl ?_);(try (refine zAP (by rfl) ?_;dsimp only));refine zAR ?hg (N:=9) ?hd (cs:=#[.int .i64 0,.int .i64 0,.int .i64 0,.int .i64 0,.slice none 0 0,.int .i64 0]) (t:=33) ?hr ?_;(case hd=>rfl);(case hg=>rfl);(case hr=>first|(go_simp;done)|(go_simp;rfl));intro gb853 hg w9 hbox hb;have n0_:=aK_ (zAH (aH_ HB.out) hb);have n1_:=aK_ (hbox);have n2_:=aK_ ((by rw [hg];exact (zAD (aH_ HB.out)):w.heap.size≤gb853));have n3_:=aK_ ((by rw [hg];exact (zAD (aH_ HB.out)):w.heap.size≤gb853));clear HB;have HB:=n0_;have BK853:=n1_;have GW853:=n2_;have GE853:=n3_;clear n0_ n1_ n2_ n3_;clear hb hbox hg;have hcz10_0:w9.cell? ⟨gb853,0,none⟩=some (.int .i64 0):=(zAB BK853.out 0).trans rfl;have hcz10_1:w9.cell? ⟨gb853,1,none⟩=some (.int .i64 0):=(zAB BK853.out 1).trans rfl;have hcz10_2:w9.cell? ⟨gb853,2,none⟩=some (.int .i64 0):=(zAB BK853.out 2).trans rfl;have hcz10_3:w9.cell? ⟨gb853,3,none⟩=some (.int .i64 0):=(zAB BK853.out 3).trans rfl;have hcz10_4:w9.cell? ⟨gb853,4,none⟩=some (.slice none 0 0):=(zAB BK853.out 4).trans rfl;have hcz10_5:w9.cell? ⟨gb853,5,none⟩=some (.int .i64 0):=(zAB BK853.out 5).trans rfl;have hfz10_0:=zAA BK853.out 0;have hfz10_1:=zAA BK853.out 1;have hfz10_2:=zAA BK853.out 2;have hfz10_3:=zAA BK853.out 3;have hfz10_4:=zAA BK853.out 4;have hfz10_5:=zAA BK853.out 5)|((with_reducible refine zAO (N:=10) rfl ?_);(try (refine zAP (by rfl) ?_;dsimp only));refine zAR ?hg (N:=10) ?hd (cs:=#[.int .i64 0,.int .i64 0,.int .i64 0,.int .i64 0,.slice none 0 0,.int .i64 0]) (t:=33) ?hr ?_;(case hd=>rfl);(case hg=>rfl);(case hr=>first|(go_simp;done)|(go_simp;rfl));intro gb854 hg w11 hbox hb;have n0_:=aK_ (zAI (g:=gb853) (o:=.cells #[.int .i64 3,.int .i64 (wrap64 (Int.tmod (IntKind.u64.wrap (a0)) 4)),.int .i64 0,.int .i64 0,.slice none 0 0,.int .i64 0] 33 (0,0)) (by refine aB_ ?_;refine zAN (cs:=#[.int .i64 3,.int .i64 (wrap64 (Int.tmod (IntKind.u64.wrap (a0)) 4)),.int .i64 0,.int .i64 0,.slice none 0 0,.int .i64 0]) ?_ 5 _ rfl;refine aB_ ?_;refine zAN (cs:=#[.int .i64 3,.int .i64 (wrap64 (Int.tmod (IntKind.u64.wrap (a0)) 4)),.int .i64 0,.int .i64 0,.slice none 0 0,.int .i64 0]) ?_ 4 _ rfl;refine aB_ ?_;refine zAN (cs:=#[.int .i64 3,.int .i64 (wrap64 (Int.tmod (IntKind.u64.wrap (a0)) 4)),.int .i64 0,.int .i64 0,.slice none 0 0,.int .i64 0]) ?_ 3 _ rfl;refine aB_ ?_;refine zAN (cs:=#[.int .i64 3,.int .i64 (wrap64 (Int.tmod (IntKind.u64.wrap (a0)) 4)),.int .i64 0,.int .i64 0,.slice none 0 0,.int .i64 0]) ?_ 2 _ rfl;refine aB_ ?_;refine zAN (cs:=#[.int .i64 3,.int .i64 0,.int .i64 0,.int .i64 0,.slice none 0 0,.int .i64 0]) ?_ 1 _ rfl;refine aB_ ?_;refine zAN (cs:=#[.int .i64 0,.int .i64 0,.int .i64 0,.int .i64 0,.slice none 0 0,.int .i64 0]) ?_ 0 _ rfl;refine aB_ ?_;exact BK853.out) hb);have n1_:=aK_ (zAH (aI_ HB.out GE853.out) hb);have n2_:=aK_ (hbox);have n3_:=aK_ ((by rw [hg];exact (zAD (aI_ HB.out GE853.out)):w.heap.size≤gb854));have n4_:=aK_ ((by rw [hg];exact (zAD (aI_ HB.out GE853.out)):w.heap.size≤gb854));have n5_:=aK_ ((by rw [hg];exact Nat.ne_of_lt (blk_lt (g:=gb853) (o:=.cells #[.int .i64 3,.int .i64 (wrap64 (Int.tmod (IntKind.u64.wrap (a0)) 4)),.int .i64 0,.int .i64 0,.slice none 0 0,.int .i64 0] 33 (0,0)) (by refine aB_ ?_;refine zAN (cs:=#[.int .i64 3,.int .i64 (wrap64 (Int.tmod (IntKind.u64.wrap (a0)) 4)),.int .i64 0,.int .i64 0,.slice none 0 0,.int .i64 0]) ?_ 5 _ rfl;refine aB_ ?_;refine zAN (cs:=#[.int .i64 3,.int .i64 (wrap64 (Int.tmod (IntKind.u64.wrap (a0)) 4)),.int .i64 0,.int .i64 0,.slice none 0 0,.int .i64 0]) ?_ 4 _ rfl;refine aB_ ?_;refine zAN (cs:=#[.int .i64 3,.int .i64 (wrap64 (Int.tmod (IntKind.u64.wrap (a0)) 4)),.int .i64 0,.int .i64 0,.slice none 0 0,.int .i64 0]) ?_ 3 _ rfl;refine aB_ ?_;refine zAN (cs:=#[.int .i64 3,.int .i64 (wrap64 (Int.tmod (IntKind.u64.wrap (a0)) 4)),.int .i64 0,.int .i64 0,.slice none 0 0,.int .i64 0]) ?_ 2 _ rfl;refine aB_ ?_;refine zAN (cs:=#[.int .i64 3,.int .i64 0,.int .i64 0,.int .i64 0,.slice none 0 0,.int .i64 0]) ?_ 1 _ rfl;refine aB_ ?_;refine zAN (cs:=#[.int .i64 0,.int .i64 0,.int .i64 0,.int .i64 0,.slice none 0 0,.int .i64 0]) ?_ 0 _ rfl;refine aB_ ?_;exact BK853.out)):gb853≠gb854));have n6_:=aK_ ((by rw [hg];exact Nat.ne_of_gt (blk_lt (g:=gb853) (o:=.cells #[.int .i64 3,.int .i64 (wrap64 (Int.tmod (IntKind.u64.wrap (a0)) 4)),.int .i64 0,.int .i64 0,.slice none 0 0,.int .i64 0] 33 (0,0)) (by refine aB_ ?_;refine zAN (cs:=#[.int .i64 3,.int .i64 (wrap64 (Int.tmod (IntKind.u64.wrap (a0)) 4)),.int .i64 0,.int .i64 0,.slice none 0 0,.int .i64 0]) ?_ 5 _ rfl;refine aB_ ?_;refine zAN (cs:=#[.int .i64 3,.int .i64 (wrap64 (Int.tmod (IntKind.u64.wrap (a0)) 4)),.int .i64 0,.int .i64 0,.slice none 0 0,.int .i64 0]) ?_ 4 _ rfl;refine aB_ ?_;refine zAN (cs:=#[.int .i64 3,.int .i64 (wrap64 (Int.tmod (IntKind.u64.wrap (a0)) 4)),.int .i64 0,.int .i64 0,.slice none 0 0,.int .i64 0]) ?_ 3 _ rfl;refine aB_ ?_;refine zAN (cs:=#[.int .i64 3,.int .i64 (wrap64 (Int.tmod (IntKind.u64.wrap (a0)) 4)),.int .i64 0,.int .i64 0,.slice none 0 0,.int .i64 0]) ?_ 2 _ rfl;refine aB_ ?_;refine zAN (cs:=#[.int .i64 3,.int .i64 0,.int .i64 0,.int .i64 0,.slice none 0 0,.int .i64 0]) ?_ 1 _ rfl;refine aB_ ?_;refine zAN (cs:=#[.int .i64 0,.int .i64 0,.int .i64 0,.int .i64 0,.slice none 0 0,.int .i64 0]) ?_ 0 _ rfl;refine aB_ ?_;exact BK853.out)):gb854≠gb853));clear BK853;clear HB;have BK853:=n0_;have HB:=n1_;have BK854:=n2_;have GW854:=n3_;have GE854:=n4_;have NB853_854:=n5_;have NB854_853:=n6_;clear n0_ n1_ n2_ n3_ n4_ n5_ n6_;clear hb hbox hg;have hnb12:=NB854_853.out;have hnc12:=NB853_854.out;have hcz13_0:w11.cell? ⟨gb854,0,none⟩=some (.int .i64 0):=(zAB BK854.out 0).trans rfl;have hcz13_1:w11.cell? ⟨gb854,1,none⟩=some (.int .i64 0):=(zAB BK854.out 1).trans rfl;have hcz13_2:w11.cell? ⟨gb854,2,none⟩=some (.int .i64 0):=(zAB BK854.out 2).trans rfl;have hcz13_3:w11.cell? ⟨gb854,3,none⟩=some (.int .i64 0):=(zAB BK854.out 3).trans rfl;have hcz13_4:w11.cell? ⟨gb854,4,none⟩=some (.slice none 0 0):=(zAB BK854.out 4).trans rfl;have hcz13_5:w11.cell? ⟨gb854,5,none⟩=some (.int .i64 0):=(zAB BK854.out 5).trans rfl;have hfz13_0:=zAA BK854.out 0;have hfz13_1:=zAA BK854.out 1;have hfz13_2:=zAA BK854.out 2;have hfz13_3:=zAA BK854.out 3;have hfz13_4:=zAA BK854.out 4;have hfz13_5:=zAA BK854.out 5))
 repeat (go_quiet (first|(go_at_call 32;(with_reducible refine (octroilaw08_awake.calls k  true _ ?side1 A5.out).mono ?_);(case side1=>(first|(with_reducible exact hG)|((repeat (with_reducible first|exact hG|apply GW.drewN|apply GW.drew|apply GW.alloc));done)|exact GW.below hG (aH_ HB.out)));rintro e w8 ⟨rfl,hb⟩;have n0_:=aK_ (zAH (aH_ HB.out) hb);clear HB;have HB:=n0_;clear n0_;(try clear hb);(try clear hb2);(try clear hk);(try clear hi))|((with_reducible refine zAO (N:=9) rfl ?_);(try (refine zAP (by rfl) ?_;dsimp only));refine zAR ?hg (N:=9) ?hd (cs:=#[.int .i64 0,.int .i64 0,.int .i64 0,.int .i64 0,.slice none 0 0,.int .i64 0]) (t:=33) ?hr ?_;(case hd=>rfl);(case hg=>rfl);(case hr=>first|(go_simp;done)|(go_simp;rfl));intro gb853 hg w9 hbox hb;have n0_:=aK_ (zAH (aH_ HB.out) hb);have n1_:=aK_ (hbox);have n2_:=aK_ ((by rw [hg];exact (zAD (aH_ HB.out)):w.heap.size≤gb853));have n3_:=aK_ ((by rw [hg];exact (zAD (aH_ HB.out)):w.heap.size≤gb853));clear HB;have HB:=n0_;have BK853:=n1_;have GW853:=n2_;have GE853:=n3_;clear n0_ n1_ n2_ n3_;clear hb hbox hg;have hcz10_0:w9.cell? ⟨gb853,0,none⟩=some (.int .i64 0):=(zAB BK853.out 0).trans rfl;have hcz10_1:w9.cell? ⟨gb853,1,none⟩=some (.int .i64 0):=(zAB BK853.out 1).trans rfl;have hcz10_2:w9.cell? ⟨gb853,2,none⟩=some (.int .i64 0):=(zAB BK853.out 2).trans rfl;have hcz10_3:w9.cell? ⟨gb853,3,none⟩=some (.int .i64 0):=(zAB BK853.out 3).trans rfl;have hcz10_4:w9.cell? ⟨gb853,4,none⟩=some (.slice none 0 0):=(zAB BK853.out 4).trans rfl;have hcz10_5:w9.cell? ⟨gb853,5,none⟩=some (.int .i64 0):=(zAB BK853.out 5).trans rfl;have hfz10_0:=zAA BK853.out 0;have hfz10_1:=zAA BK853.out 1;have hfz10_2:=zAA BK853.out 2;have hfz10_3:=zAA BK853.out 3;have hfz10_4:=zAA BK853.out 4;have hfz10_5:=zAA BK853.out 5)|((with_reducible refine zAO (N:=10) rfl ?_);(try (refine zAP (by rfl) ?_;dsimp only));refine zAR ?hg (N:=10) ?hd (cs:=#[.int .i64 0,.int .i64 0,.int .i64 0,.int .i64 0,.slice none 0 0,.int .i64 0]) (t:=33) ?hr ?_;(case hd=>rfl);(case hg=>rfl);(case hr=>first|(go_simp;done)|(go_simp;rfl));intro gb854 hg w11 hbox hb;have n0_:=aK_ (zAI (g:=gb853) (o:=.cells #[.int .i64 3,.int .i64 (wrap64 (Int.tmod (IntKind.u64.wrap (a0)) 4)),.int .i64 0,.int .i64 0,.slice none 0 0,.int .i64 0] 33 (0,0)) (by refine aB_ ?_;refine zAN (cs:=#[.int .i64 3,.int .i64 (wrap64 (Int.tmod (IntKind.u64.wrap (a0)) 4)),.int .i64 0,.int .i64 0,.slice none 0 0,.int .i64 0]) ?_ 5 _ rfl;refine aB_ ?_;refine zAN (cs:=#[.int .i64 3,.int .i64 (wrap64 (Int.tmod (IntKind.u64.wrap (a0)) 4)),.int .i64 0,.int .i64 0,.slice none 0 0,.int .i64 0]) ?_ 4 _ rfl;refine aB_ ?_;refine zAN (cs:=#[.int .i64 3,.int .i64 (wrap64 (Int.tmod (IntKind.u64.wrap (a0)) 4)),.int .i64 0,.int .i64 0,.slice none 0 0,.int .i64 0]) ?_ 3 _ rfl;refine aB_ ?_;refine zAN (cs:=#[.int .i64 3,.int .i64 (wrap64 (Int.tmod (IntKind.u64.wrap (a0)) 4)),.int .i64 0,.int .i64 0,.slice none 0 0,.int .i64 0]) ?_ 2 _ rfl;refine aB_ ?_;refine zAN (cs:=#[.int .i64 3,.int .i64 0,.int .i64 0,.int .i64 0,.slice none 0 0,.int .i64 0]) ?_ 1 _ rfl;refine aB_ ?_;refine zAN (cs:=#[.int .i64 0,.int .i64 0,.int .i64 0,.int .i64 0,.slice none 0 0,.int .i64 0]) ?_ 0 _ rfl;refine aB_ ?_;exact BK853.out) hb);have n1_:=aK_ (zAH (aI_ HB.out GE853.out) hb);have n2_:=aK_ (hbox);have n3_:=aK_ ((by rw [hg];exact (zAD (aI_ HB.out GE853.out)):w.heap.size≤gb854));have n4_:=aK_ ((by rw [hg];exact (zAD (aI_ HB.out GE853.out)):w.heap.size≤gb854));have n5_:=aK_ ((by rw [hg];exact Nat.ne_of_lt (blk_lt (g:=gb853) (o:=.cells #[.int .i64 3,.int .i64 (wrap64 (Int.tmod (IntKind.u64.wrap (a0)) 4)),.int .i64 0,.int .i64 0,.slice none 0 0,.int .i64 0] 33 (0,0)) (by refine aB_ ?_;refine zAN (cs:=#[.int .i64 3,.int .i64 (wrap64 (Int.tmod (IntKind.u64.wrap (a0)) 4)),.int .i64 0,.int .i64 0,.slice none 0 0,.int .i64 0]) ?_ 5 _ rfl;refine aB_ ?_;refine zAN (cs:=#[.int .i64 3,.int .i64 (wrap64 (Int.tmod (IntKind.u64.wrap (a0)) 4)),.int .i64 0,.int .i64 0,.slice none 0 0,.int .i64 0]) ?_ 4 _ rfl;refine aB_ ?_;refine zAN (cs:=#[.int .i64 3,.int .i64 (wrap64 (Int.tmod (IntKind.u64.wrap (a0)) 4)),.int .i64 0,.int .i64 0,.slice none 0 0,.int .i64 0]) ?_ 3 _ rfl;refine aB_ ?_;refine zAN (cs:=#[.int .i64 3,.int .i64 (wrap64 (Int.tmod (IntKind.u64.wrap (a0)) 4)),.int .i64 0,.int .i64 0,.slice none 0 0,.int .i64 0]) ?_ 2 _ rfl;refine aB_ ?_;refine zAN (cs:=#[.int .i64 3,.int .i64 0,.int .i64 0,.int .i64 0,.slice none 0 0,.int .i64 0]) ?_ 1 _ rfl;refine aB_ ?_;refine zAN (cs:=#[.int .i64 0,.int .i64 0,.int .i64 0,.int .i64 0,.slice none 0 0,.int .i64 0]) ?_ 0 _ rfl;refine aB_ ?_;exact BK853.out)):gb853≠gb854));have n6_:=aK_ ((by rw [hg];exact Nat.ne_of_gt (blk_lt (g:=gb853) (o:=.cells #[.int .i64 3,.int .i64 (wrap64 (Int.tmod (IntKind.u64.wrap (a0)) 4)),.int .i64 0,.int .i64 0,.slice none 0 0,.int .i64 0] 33 (0,0)) (by refine aB_ ?_;refine zAN (cs:=#[.int .i64 3,.int .i64 (wrap64 (Int.tmod (IntKind.u64.wrap (a0)) 4)),.int .i64 0,.int .i64 0,.slice none 0 0,.int .i64 0]) ?_ 5 _ rfl;refine aB_ ?_;refine zAN (cs:=#[.int .i64 3,.int .i64 (wrap64 (Int.tmod (IntKind.u64.wrap (a0)) 4)),.int .i64 0,.int .i64 0,.slice none 0 0,.int .i64 0]) ?_ 4 _ rfl;refine aB_ ?_;refine zAN (cs:=#[.int .i64 3,.int .i64 (wrap64 (Int.tmod (IntKind.u64.wrap (a0)) 4)),.int .i64 0,.int .i64 0,.slice none 0 0,.int .i64 0]) ?_ 3 _ rfl;refine aB_ ?_;refine zAN (cs:=#[.int .i64 3,.int .i64 (wrap64 (Int.tmod (IntKind.u64.wrap (a0)) 4)),.int .i64 0,.int .i64 0,.slice none 0 0,.int .i64 0]) ?_ 2 _ rfl;refine aB_ ?_;refine zAN (cs:=#[.int .i64 3,.int .i64 0,.int .i64 0,.int .i64 0,.slice none 0 0,.int .i64 0]) ?_ 1 _ rfl;refine aB_ ?_;refine zAN (cs:=#[.int .i64 0,.int .i64 0,.int .i64 0,.int .i64 0,.slice none 0 0,.int .i64 0]) ?_ 0 _ rfl;refine aB_ ?_;exact BK853.out)):gb854≠gb853));clear BK853;clear HB;have BK853:=n0_;have HB:=n1_;have BK854:=n2_;have GW854:=n3_;have GE854:=n4_;have NB853_854:=n5_;have NB854_853:=n6_;clear n0_ n1_ n2_ n3_ n4_ n5_ n6_;clear hb hbox hg;have hnb12:=NB854_853.out;have hnc12:=NB853_854.out;have hcz13_0:w11.cell? ⟨gb854,0,none⟩=some (.int .i64 0):=(zAB BK854.out 0).trans rfl;have hcz13_1:w11.cell? ⟨gb854,1,none⟩=some (.int .i64 0):=(zAB BK854.out 1).trans rfl;have hcz13_2:w11.cell? ⟨gb854,2,none⟩=some (.int .i64 0):=(zAB BK854.out 2).trans rfl;have hcz13_3:w11.cell? ⟨gb854,3,none⟩=some (.int .i64 0):=(zAB BK854.out 3).trans rfl;have hcz13_4:w11.cell? ⟨gb854,4,none⟩=some (.slice none 0 0):=(zAB BK854.out 4).trans rfl;have hcz13_5:w11.cell? ⟨gb854,5,none⟩=some (.int .i64 0):=(zAB BK854.out 5).trans rfl;have hfz13_0:=zAA BK854.out 0;have hfz13_1:=zAA BK854.out 1;have hfz13_2:=zAA BK854.out 2;have hfz13_3:=zAA BK854.out 3;have hfz13_4:=zAA BK854.out 4;have hfz13_5:=zAA BK854.out 5));go_upto_if 27 with (first|(go_at_call 32;(with_reducible refine (octroilaw08_awake.calls k  true _ ?side1 A5.out).mono ?_);(case side1=>(first|(with_reducible exact hG)|((repeat (with_reducible first|exact hG|apply GW.drewN|apply GW.drew|apply GW.alloc));done)|exact GW.below hG (aH_ HB.out)));rintro e w8 ⟨rfl,hb⟩;have n0_:=aK_ (zAH (aH_ HB.out) hb);clear HB;have HB:=n0_;clear n0_;(try clear hb);(try clear hb2);(try clear hk);(try clear hi))|((with_reducible refine zAO (N:=9) rfl ?_);(try (refine zAP (by rfl) ?_;dsimp only));refine zAR ?hg (N:=9) ?hd (cs:=#[.int .i64 0,.int .i64 0,.int .i64 0,.int .i64 0,.slice none 0 0,.int .i64 0]) (t:=33) ?hr ?_;(case hd=>rfl);(case hg=>rfl);(case hr=>first|(go_simp;done)|(go_simp;rfl));intro gb853 hg w9 hbox hb;have n0_:=aK_ (zAH (aH_ HB.out) hb);have n1_:=aK_ (hbox);have n2_:=aK_ ((by rw [hg];exact (zAD (aH_ HB.out)):w.heap.size≤gb853));have n3_:=aK_ ((by rw [hg];exact (zAD (aH_ HB.out)):w.heap.size≤gb853));clear HB;have HB:=n0_;have BK853:=n1_;have GW853:=n2_;have GE853:=n3_;clear n0_ n1_ n2_ n3_;clear hb hbox hg;have hcz10_0:w9.cell? ⟨gb853,0,none⟩=some (.int .i64 0):=(zAB BK853.out 0).trans rfl;have hcz10_1:w9.cell? ⟨gb853,1,none⟩=some (.int .i64 0):=(zAB BK853.out 1).trans rfl;have hcz10_2:w9.cell? ⟨gb853,2,none⟩=some (.int .i64 0):=(zAB BK853.out 2).trans rfl;have hcz10_3:w9.cell? ⟨gb853,3,none⟩=some (.int .i64 0):=(zAB BK853.out 3).trans rfl;have hcz10_4:w9.cell? ⟨gb853,4,none⟩=some (.slice none 0 0):=(zAB BK853.out 4).trans rfl;have hcz10_5:w9.cell? ⟨gb853,5,none⟩=some (.int .i64 0):=(zAB BK853.out 5).trans rfl;have hfz10_0:=zAA BK853.out 0;have hfz10_1:=zAA BK853.out 1;have hfz10_2:=zAA BK853.out 2;have hfz10_3:=zAA BK853.out 3;have hfz10_4:=zAA BK853.out 4;have hfz10_5:=zAA BK853.out 5)|((with_reducible refine zAO (N:=10) rfl ?_);(try (refine zAP (by rfl) ?_;dsimp only));refine zAR ?hg (N:=10) ?hd (cs:=#[.int .i64 0,.int .i64 0,.int .i64 0,.int .i64 0,.slice none 0 0,.int .i64 0]) (t:=33) ?hr ?_;(case hd=>rfl);(case hg=>rfl);(case hr=>first|(go_simp;done)|(go_simp;rfl));intro gb854 hg w11 hbox hb;have n0_:=aK_ (zAI (g:=gb853) (o:=.cells #[.int .i64 3,.int .i64 (wrap64 (Int.tmod (IntKind.u64.wrap (a0)) 4)),.int .i64 0,.int .i64 0,.slice none 0 0,.int .i64 0] 33 (0,0)) (by refine aB_ ?_;refine zAN (cs:=#[.int .i64 3,.int .i64 (wrap64 (Int.tmod (IntKind.u64.wrap (a0)) 4)),.int .i64 0,.int .i64 0,.slice none 0 0,.int .i64 0]) ?_ 5 _ rfl;refine aB_ ?_;refine zAN (cs:=#[.int .i64 3,.int .i64 (wrap64 (Int.tmod (IntKind.u64.wrap (a0)) 4)),.int .i64 0,.int .i64 0,.slice none 0 0,.int .i64 0]) ?_ 4 _ rfl;refine aB_ ?_;refine zAN (cs:=#[.int .i64 3,.int .i64 (wrap64 (Int.tmod (IntKind.u64.wrap (a0)) 4)),.int .i64 0,.int .i64 0,.slice none 0 0,.int .i64 0]) ?_ 3 _ rfl;refine aB_ ?_;refine zAN (cs:=#[.int .i64 3,.int .i64 (wrap64 (Int.tmod (IntKind.u64.wrap (a0)) 4)),.int .i64 0,.int .i64 0,.slice none 0 0,.int .i64 0]) ?_ 2 _ rfl;refine aB_ ?_;refine zAN (cs:=#[.int .i64 3,.int .i64 0,.int .i64 0,.int .i64 0,.slice none 0 0,.int .i64 0]) ?_ 1 _ rfl;refine aB_ ?_;refine zAN (cs:=#[.int .i64 0,.int .i64 0,.int .i64 0,.int .i64 0,.slice none 0 0,.int .i64 0]) ?_ 0 _ rfl;refine aB_ ?_;exact BK853.out) hb);have n1_:=aK_ (zAH (aI_ HB.out GE853.out) hb);have n2_:=aK_ (hbox);have n3_:=aK_ ((by rw [hg];exact (zAD (aI_ HB.out GE853.out)):w.heap.size≤gb854));have n4_:=aK_ ((by rw [hg];exact (zAD (aI_ HB.out GE853.out)):w.heap.size≤gb854));have n5_:=aK_ ((by rw [hg];exact Nat.ne_of_lt (blk_lt (g:=gb853) (o:=.cells #[.int .i64 3,.int .i64 (wrap64 (Int.tmod (IntKind.u64.wrap (a0)) 4)),.int .i64 0,.int .i64 0,.slice none 0 0,.int .i64 0] 33 (0,0)) (by refine aB_ ?_;refine zAN (cs:=#[.int .i64 3,.int .i64 (wrap64 (Int.tmod (IntKind.u64.wrap (a0)) 4)),.int .i64 0,.int .i64 0,.slice none 0 0,.int .i64 0]) ?_ 5 _ rfl;refine aB_ ?_;refine zAN (cs:=#[.int .i64 3,.int .i64 (wrap64 (Int.tmod (IntKind.u64.wrap (a0)) 4)),.int .i64 0,.int .i64 0,.slice none 0 0,.int .i64 0]) ?_ 4 _ rfl;refine aB_ ?_;refine zAN (cs:=#[.int .i64 3,.int .i64 (wrap64 (Int.tmod (IntKind.u64.wrap (a0)) 4)),.int .i64 0,.int .i64 0,.slice none 0 0,.int .i64 0]) ?_ 3 _ rfl;refine aB_ ?_;refine zAN (cs:=#[.int .i64 3,.int .i64 (wrap64 (Int.tmod (IntKind.u64.wrap (a0)) 4)),.int .i64 0,.int .i64 0,.slice none 0 0,.int .i64 0]) ?_ 2 _ rfl;refine aB_ ?_;refine zAN (cs:=#[.int .i64 3,.int .i64 0,.int .i64 0,.int .i64 0,.slice none 0 0,.int .i64 0]) ?_ 1 _ rfl;refine aB_ ?_;refine zAN (cs:=#[.int .i64 0,.int .i64 0,.int .i64 0,.int .i64 0,.slice none 0 0,.int .i64 0]) ?_ 0 _ rfl;refine aB_ ?_;exact BK853.out)):gb853≠gb854));have n6_:=aK_ ((by rw [hg];exact Nat.ne_of_gt (blk_lt (g:=gb853) (o:=.cells #[.int .i64 3,.int .i64 (wrap64 (Int.tmod (IntKind.u64.wrap (a0)) 4)),.int .i64 0,.int .i64 0,.slice none 0 0,.int .i64 0] 33 (0,0)) (by refine aB_ ?_;refine zAN (cs:=#[.int .i64 3,.int .i64 (wrap64 (Int.tmod (IntKind.u64.wrap (a0)) 4)),.int .i64 0,.int .i64 0,.slice none 0 0,.int .i64 0]) ?_ 5 _ rfl;refine aB_ ?_;refine zAN (cs:=#[.int .i64 3,.int .i64 (wrap64 (Int.tmod (IntKind.u64.wrap (a0)) 4)),.int .i64 0,.int .i64 0,.slice none 0 0,.int .i64 0]) ?_ 4 _ rfl;refine aB_ ?_;refine zAN (cs:=#[.int .i64 3,.int .i64 (wrap64 (Int.tmod (IntKind.u64.wrap (a0)) 4)),.int .i64 0,.int .i64 0,.slice none 0 0,.int .i64 0]) ?_ 3 _ rfl;refine aB_ ?_;refine zAN (cs:=#[.int .i64 3,.int .i64 (wrap64 (Int.tmod (IntKind.u64.wrap (a0)) 4)),.int .i64 0,.int .i64 0,.slice none 0 0,.int .i64 0]) ?_ 2 _ rfl;refine aB_ ?_;refine zAN (cs:=#[.int .i64 3,.int .i64 0,.int .i64 0,.int .i64 0,.slice none 0 0,.int .i64 0]) ?_ 1 _ rfl;refine aB_ ?_;refine zAN (cs:=#[.int .i64 0,.int .i64 0,.int .i64 0,.int .i64 0,.slice none 0 0,.int .i64 0]) ?_ 0 _ rfl;refine aB_ ?_;exact BK853.out)):gb854≠gb853));clear BK853;clear HB;have BK853:=n0_;have HB:=n1_;have BK854:=n2_;have GW854:=n3_;have GE854:=n4_;have NB853_854:=n5_;have NB854_853:=n6_;clear n0_ n1_ n2_ n3_ n4_ n5_ n6_;clear hb hbox hg;have hnb12:=NB854_853.out;have hnc12:=NB853_854.out;have hcz13_0:w11.cell? ⟨gb854,0,none⟩=some (.int .i64 0):=(zAB BK854.out 0).trans rfl;have hcz13_1:w11.cell? ⟨gb854,1,none⟩=some (.int .i64 0):=(zAB BK854.out 1).trans rfl;have hcz13_2:w11.cell? ⟨gb854,2,none⟩=some (.int .i64 0):=(zAB BK854.out 2).trans rfl;have hcz13_3:w11.cell? ⟨gb854,3,none⟩=some (.int .i64 0):=(zAB BK854.out 3).trans rfl;have hcz13_4:w11.cell? ⟨gb854,4,none⟩=some (.slice none 0 0):=(zAB BK854.out 4).trans rfl;have hcz13_5:w11.cell? ⟨gb854,5,none⟩=some (.int .i64 0):=(zAB BK854.out 5).trans rfl;have hfz13_0:=zAA BK854.out 0;have hfz13_1:=zAA BK854.out 1;have hfz13_2:=zAA BK854.out 2;have hfz13_3:=zAA BK854.out 3;have hfz13_4:=zAA BK854.out 4;have hfz13_5:=zAA BK854.out 5)))
 (try simp only [Act.put,List.setIfInBounds_toArray,List.set_cons_zero,List.set_cons_succ])
 go_cut [] (fun wc=>∃ (kq:Nat) (x854000_6:Int),zAY (zAF.j0 kq a3 x854000_6 (wrap64 (Int.tmod (IntKind.u64.wrap (a0)) 4)) 0 0 0 3 (wrap64 (Int.tmod (IntKind.u64.wrap (a1)) 4)) 0 0 0=some r)∧zAY (kq≤k)∧zAY (wc.heap[gb853]?=some (.cells #[.int .i64 x854000_6,.int .i64 (wrap64 (Int.tmod (IntKind.u64.wrap (a0)) 4)),.int .i64 0,.int .i64 0,(.slice none 0 0),.int .i64 0] 33 (0,0)))∧zAY (wc.heap[gb854]?=some (.cells #[.int .i64 3,.int .i64 (wrap64 (Int.tmod (IntKind.u64.wrap (a1)) 4)),.int .i64 0,.int .i64 0,(.slice none 0 0),.int .i64 0] 33 (0,0)))∧zAY (Below w.heap.size w wc))
 case first =>
  have H:=HC7.out
  clear HC7
  by_cases c14:a2=true
  rotate_left
  ·replace c14:=Bool.eq_false_iff.mpr c14
   subst c14
   have H1:(zAF.j0 k a3 3 (wrap64 (Int.tmod (IntKind.u64.wrap (a0)) 4)) 0 0 0 3 (wrap64 (Int.tmod (IntKind.u64.wrap (a1)) 4)) 0 0 0)=some r:=by rw [if_neg (show ¬ (false=true) by decide)] at H;exact H
   clear H
   have H:=H1
   clear H1
   have H':=aK_ H
   clear H
   go_wp2
   repeat (go_quiet (fail);try go_wp2)
   go_meet
   case rel=>exact ⟨_,(3),H',⟨by first|omega|exact Nat.le_refl _⟩,⟨by refine aB_ ?_;refine zAV ?_ NB853_854.out _;refine aB_ ?_;refine zAV ?_ NB853_854.out _;refine aB_ ?_;refine zAV ?_ NB853_854.out _;refine aB_ ?_;refine zAV ?_ NB853_854.out _;refine aB_ ?_;refine zAV ?_ NB853_854.out _;refine aB_ ?_;refine zAV ?_ NB853_854.out _;refine aB_ ?_;exact BK853.out⟩,⟨by refine aB_ ?_;refine zAN (cs:=#[.int .i64 3,.int .i64 (wrap64 (Int.tmod (IntKind.u64.wrap (a1)) 4)),.int .i64 0,.int .i64 0,.slice none 0 0,.int .i64 0]) ?_ 5 _ rfl;refine aB_ ?_;refine zAN (cs:=#[.int .i64 3,.int .i64 (wrap64 (Int.tmod (IntKind.u64.wrap (a1)) 4)),.int .i64 0,.int .i64 0,.slice none 0 0,.int .i64 0]) ?_ 4 _ rfl;refine aB_ ?_;refine zAN (cs:=#[.int .i64 3,.int .i64 (wrap64 (Int.tmod (IntKind.u64.wrap (a1)) 4)),.int .i64 0,.int .i64 0,.slice none 0 0,.int .i64 0]) ?_ 3 _ rfl;refine aB_ ?_;refine zAN (cs:=#[.int .i64 3,.int .i64 (wrap64 (Int.tmod (IntKind.u64.wrap (a1)) 4)),.int .i64 0,.int .i64 0,.slice none 0 0,.int .i64 0]) ?_ 2 _ rfl;refine aB_ ?_;refine zAN (cs:=#[.int .i64 3,.int .i64 0,.int .i64 0,.int .i64 0,.slice none 0 0,.int .i64 0]) ?_ 1 _ rfl;refine aB_ ?_;refine zAN (cs:=#[.int .i64 0,.int .i64 0,.int .i64 0,.int .i64 0,.slice none 0 0,.int .i64 0]) ?_ 0 _ rfl;refine aB_ ?_;exact BK854.out⟩,⟨aJ_ HB.out GE853.out GE854.out⟩⟩
  subst c14
  have H1:(zAF.j0 k a3 4 (wrap64 (Int.tmod (IntKind.u64.wrap (a0)) 4)) 0 0 0 3 (wrap64 (Int.tmod (IntKind.u64.wrap (a1)) 4)) 0 0 0)=some r:=by rw [if_pos rfl] at H;exact H
  clear H
  have H:=H1
  clear H1
  have H':=aK_ H
  clear H
  have hnb15:=NB853_854.out
  have hnc15:=NB854_853.out
  have hcz16_0:w11.cell? ⟨gb853,0,none⟩=some (.int .i64 3):=(zAB BK853.out 0).trans rfl
  have hcz16_1:w11.cell? ⟨gb853,1,none⟩=some (.int .i64 (wrap64 (Int.tmod (IntKind.u64.wrap (a0)) 4))):=(zAB BK853.out 1).trans rfl
  have hcz16_2:w11.cell? ⟨gb853,2,none⟩=some (.int .i64 0):=(zAB BK853.out 2).trans rfl
  have hcz16_3:w11.cell? ⟨gb853,3,none⟩=some (.int .i64 0):=(zAB BK853.out 3).trans rfl
  have hcz16_4:w11.cell? ⟨gb853,4,none⟩=some (.slice none 0 0):=(zAB BK853.out 4).trans rfl
  have hcz16_5:w11.cell? ⟨gb853,5,none⟩=some (.int .i64 0):=(zAB BK853.out 5).trans rfl
  have hfz16_0:=zAA BK853.out 0
  have hfz16_1:=zAA BK853.out 1
  have hfz16_2:=zAA BK853.out 2
  have hfz16_3:=zAA BK853.out 3
  have hfz16_4:=zAA BK853.out 4
  have hfz16_5:=zAA BK853.out 5
  go_wp2
  repeat (go_quiet (fail);try go_wp2)
  go_meet
  case rel=>exact ⟨_,(4),H',⟨by first|omega|exact Nat.le_refl _⟩,⟨by refine aB_ ?_;refine zAN (cs:=#[.int .i64 3,.int .i64 (wrap64 (Int.tmod (IntKind.u64.wrap (a0)) 4)),.int .i64 0,.int .i64 0,.slice none 0 0,.int .i64 0]) ?_ 0 _ rfl;refine aB_ ?_;refine zAV ?_ NB853_854.out _;refine aB_ ?_;refine zAV ?_ NB853_854.out _;refine aB_ ?_;refine zAV ?_ NB853_854.out _;refine aB_ ?_;refine zAV ?_ NB853_854.out _;refine aB_ ?_;refine zAV ?_ NB853_854.out _;refine aB_ ?_;refine zAV ?_ NB853_854.out _;refine aB_ ?_;exact BK853.out⟩,⟨by refine aB_ ?_;refine zAV ?_ NB854_853.out _;refine aB_ ?_;refine zAN (cs:=#[.int .i64 3,.int .i64 (wrap64 (Int.tmod (IntKind.u64.wrap (a1)) 4)),.int .i64 0,.int .i64 0,.slice none 0 0,.int .i64 0]) ?_ 5 _ rfl;refine aB_ ?_;refine zAN (cs:=#[.int .i64 3,.int .i64 (wrap64 (Int.tmod (IntKind.u64.wrap (a1)) 4)),.int .i64 0,.int .i64 0,.slice none 0 0,.int .i64 0]) ?_ 4 _ rfl;refine aB_ ?_;refine zAN (cs:=#[.int .i64 3,.int .i64 (wrap64 (Int.tmod (IntKind.u64.wrap (a1)) 4)),.int .i64 0,.int .i64 0,.slice none 0 0,.int .i64 0]) ?_ 3 _ rfl;refine aB_ ?_;refine zAN (cs:=#[.int .i64 3,.int .i64 (wrap64 (Int.tmod (IntKind.u64.wrap (a1)) 4)),.int .i64 0,.int .i64 0,.slice none 0 0,.int .i64 0]) ?_ 2 _ rfl;refine aB_ ?_;refine zAN (cs:=#[.int .i64 3,.int .i64 0,.int .i64 0,.int .i64 0,.slice none 0 0,.int .i64 0]) ?_ 1 _ rfl;refine aB_ ?_;refine zAN (cs:=#[.int .i64 0,.int .i64 0,.int .i64 0,.int .i64 0,.slice none 0 0,.int .i64 0]) ?_ 0 _ rfl;refine aB_ ?_;exact BK854.out⟩,⟨aJ_ HB.out GE853.out GE854.out⟩⟩
 clear HC7
 try clear c1
 try clear p2
 try clear c6
 try clear p6
 try clear c12
 try clear c13
 try clear c14
 try clear c15
 try clear hcz10_0
 try clear hcz10_1
 try clear hcz10_2
 try clear hcz10_3
 try clear hcz10_4
 try clear hcz10_5
 try clear hcz13_0
 try clear hcz13_1
 try clear hcz13_2
 try clear hcz13_3
 try clear hcz13_4
 try clear hcz13_5
 try clear hcz16_0
 try clear hcz16_1
 try clear hcz16_2
 try clear hcz16_3
 try clear hcz16_4
 try clear hcz16_5
 try clear hfz10_0
 try clear hfz10_1
 try clear hfz10_2
 try clear hfz10_3
 try clear hfz10_4
 try clear hfz10_5
 try clear hfz13_0
 try clear hfz13_1
 try clear hfz13_2
 try clear hfz13_3
 try clear hfz13_4
 try clear hfz13_5
 try clear hfz16_0
 try clear hfz16_1
 try clear hfz16_2
 try clear hfz16_3
 try clear hfz16_4
 try clear hfz16_5
 obtain ⟨kq,x854000_6,HA,HJ6,BK853,BK854,HB⟩:=hcut
 cases kq with
 |zero=>exact absurd HA.out (by simp [zAF.j0])
 |succ kj6=>?_
 have H:=HA.out
 clear HA
 simp only [zAF.j0] at H
 have HC17:=aK_ H
 clear H
 go_upto_if 29 with (fail)
 repeat (go_quiet (fail);go_upto_if 29 with (fail))
 go_cut [] (fun wc=>∃ (kq:Nat) (x855000_16:Int),zAY (zAF.j1 kq x854000_6 (wrap64 (Int.tmod (IntKind.u64.wrap (a0)) 4)) 0 0 0 x855000_16 (wrap64 (Int.tmod (IntKind.u64.wrap (a1)) 4)) 0 0 0=some r)∧zAY (kq≤kj6)∧zAY (wc.heap[gb853]?=some (.cells #[.int .i64 x854000_6,.int .i64 (wrap64 (Int.tmod (IntKind.u64.wrap (a0)) 4)),.int .i64 0,.int .i64 0,(.slice none 0 0),.int .i64 0] 33 (0,0)))∧zAY (wc.heap[gb854]?=some (.cells #[.int .i64 x855000_16,.int .i64 (wrap64 (Int.tmod (IntKind.u64.wrap (a1)) 4)),.int .i64 0,.int .i64 0,(.slice none 0 0),.int .i64 0] 33 (0,0)))∧zAY (Below w.heap.size w wc))
 case first =>
  have H:=HC17.out
  clear HC17
  by_cases c18:a3=true
  rotate_left
  ·replace c18:=Bool.eq_false_iff.mpr c18
   subst c18
   have H1:(zAF.j1 kj6 x854000_6 (wrap64 (Int.tmod (IntKind.u64.wrap (a0)) 4)) 0 0 0 3 (wrap64 (Int.tmod (IntKind.u64.wrap (a1)) 4)) 0 0 0)=some r:=by rw [if_neg (show ¬ (false=true) by decide)] at H;exact H
   clear H
   have H:=H1
   clear H1
   have H':=aK_ H
   clear H
   go_wp2
   repeat (go_quiet (fail);try go_wp2)
   go_meet
   case rel=>exact ⟨_,(3),H',⟨by have:=HJ6.out;first|omega|exact Nat.le_refl _⟩,⟨aB_ BK853.out⟩,⟨aB_ BK854.out⟩,⟨aJ_ HB.out GE853.out GE854.out⟩⟩
  subst c18
  have H1:(zAF.j1 kj6 x854000_6 (wrap64 (Int.tmod (IntKind.u64.wrap (a0)) 4)) 0 0 0 4 (wrap64 (Int.tmod (IntKind.u64.wrap (a1)) 4)) 0 0 0)=some r:=by rw [if_pos rfl] at H;exact H
  clear H
  have H:=H1
  clear H1
  have H':=aK_ H
  clear H
  have hnb19:=NB854_853.out
  have hnc19:=NB853_854.out
  have hcz20_0:wc.cell? ⟨gb854,0,none⟩=some (.int .i64 3):=(zAB BK854.out 0).trans rfl
  have hcz20_1:wc.cell? ⟨gb854,1,none⟩=some (.int .i64 (wrap64 (Int.tmod (IntKind.u64.wrap (a1)) 4))):=(zAB BK854.out 1).trans rfl
  have hcz20_2:wc.cell? ⟨gb854,2,none⟩=some (.int .i64 0):=(zAB BK854.out 2).trans rfl
  have hcz20_3:wc.cell? ⟨gb854,3,none⟩=some (.int .i64 0):=(zAB BK854.out 3).trans rfl
  have hcz20_4:wc.cell? ⟨gb854,4,none⟩=some (.slice none 0 0):=(zAB BK854.out 4).trans rfl
  have hcz20_5:wc.cell? ⟨gb854,5,none⟩=some (.int .i64 0):=(zAB BK854.out 5).trans rfl
  have hfz20_0:=zAA BK854.out 0
  have hfz20_1:=zAA BK854.out 1
  have hfz20_2:=zAA BK854.out 2
  have hfz20_3:=zAA BK854.out 3
  have hfz20_4:=zAA BK854.out 4
  have hfz20_5:=zAA BK854.out 5
  go_wp2
  repeat (go_quiet (fail);try go_wp2)
  go_meet
  case rel=>exact ⟨_,(4),H',⟨by have:=HJ6.out;first|omega|exact Nat.le_refl _⟩,⟨by refine aB_ ?_;refine zAV ?_ NB853_854.out _;refine aB_ ?_;exact BK853.out⟩,⟨by refine aB_ ?_;refine zAN (cs:=#[.int .i64 3,.int .i64 (wrap64 (Int.tmod (IntKind.u64.wrap (a1)) 4)),.int .i64 0,.int .i64 0,.slice none 0 0,.int .i64 0]) ?_ 0 _ rfl;refine aB_ ?_;exact BK854.out⟩,⟨aJ_ HB.out GE853.out GE854.out⟩⟩
 clear HC17
 try clear c1
 try clear p2
 try clear c6
 try clear p6
 try clear c12
 try clear c13
 try clear c14
 try clear c15
 try clear c18
 try clear c19
 try clear hcz10_0
 try clear hcz10_1
 try clear hcz10_2
 try clear hcz10_3
 try clear hcz10_4
 try clear hcz10_5
 try clear hcz13_0
 try clear hcz13_1
 try clear hcz13_2
 try clear hcz13_3
 try clear hcz13_4
 try clear hcz13_5
 try clear hcz16_0
 try clear hcz16_1
 try clear hcz16_2
 try clear hcz16_3
 try clear hcz16_4
 try clear hcz16_5
 try clear hcz20_0
 try clear hcz20_1
 try clear hcz20_2
 try clear hcz20_3
 try clear hcz20_4
 try clear hcz20_5
 try clear hfz10_0
 try clear hfz10_1
 try clear hfz10_2
 try clear hfz10_3
 try clear hfz10_4
 try clear hfz10_5
 try clear hfz13_0
 try clear hfz13_1
 try clear hfz13_2
 try clear hfz13_3
 try clear hfz13_4
 try clear hfz13_5
 try clear hfz16_0
 try clear hfz16_1
 try clear hfz16_2
 try clear hfz16_3
 try clear hfz16_4
 try clear hfz16_5
 try clear hfz20_0
 try clear hfz20_1
 try clear hfz20_2
 try clear hfz20_3
 try clear hfz20_4
 try clear hfz20_5
 try clear p2
 try clear p6
 obtain ⟨kq,x855000_16,HA,HJ16,BK853,BK854,HB⟩:=hcut
 cases kq with
 |zero=>exact absurd HA.out (by simp [zAF.j1])
 |succ kj16=>?_
 have H:=HA.out
 clear HA
 simp only [zAF.j1] at H
 obtain ⟨y855,hy855⟩:∃ y_:List (S47),y_=(([(⟨(⟨#[97]⟩:ByteArray),1⟩:S47),(⟨(⟨#[98]⟩:ByteArray),2⟩:S47),(⟨(⟨#[99]⟩:ByteArray),3⟩:S47),(⟨(⟨#[100]⟩:ByteArray),4⟩:S47)]:List (S47))):=⟨_,rfl⟩
 replace H:((some (([(⟨x854000_6,(wrap64 (Int.tmod (IntKind.u64.wrap (a0)) 4)),0,0,([]:List (S45)),0⟩:S33),(⟨x855000_16,(wrap64 (Int.tmod (IntKind.u64.wrap (a1)) 4)),0,0,([]:List (S45)),0⟩:S33),(⟨6,0,0,0,([]:List (S45)),0⟩:S33),(⟨13,0,0,0,(([(⟨0,5⟩:S45)]:List (S45))),0⟩:S33)]:List (S33)):List (S33))).bind fun y862=>((zAG.f kj16 (⟨#[112]⟩:ByteArray) y855 0 y862).bind fun bt865=>(if x854000_6=x855000_16 then (zAF.j2 kj16 bt865.1 bt865.2.1 bt865.2.2 ((wrap64 (Int.tmod (IntKind.u64.wrap (a0)) 4)) != (wrap64 (Int.tmod (IntKind.u64.wrap (a1)) 4))) x854000_6 (wrap64 (Int.tmod (IntKind.u64.wrap (a0)) 4)) 0 0 0 (⟨#[112]⟩:ByteArray) y855 0 y862) else (zAF.j2 kj16 bt865.1 bt865.2.1 bt865.2.2 true x854000_6 (wrap64 (Int.tmod (IntKind.u64.wrap (a0)) 4)) 0 0 0 (⟨#[112]⟩:ByteArray) y855 0 y862))))=some r:=by first|(rw [hy855];with_reducible exact H)|(have H2_:=(Option.bind_some _ _).symm.trans H;rw [hy855];with_reducible exact H2_)|(have H2_:=(Option.bind_some _ _).symm.trans H;with_reducible exact H2_)|with_reducible exact H|(rw [hy855];exact H)|exact H
 have Ny855:=aK_ hy855
 clear hy855
 obtain ⟨y859,hy859⟩:∃ y_:List (S45),y_=(([(⟨0,5⟩:S45)]:List (S45))):=⟨_,rfl⟩
 replace H:((some (([(⟨x854000_6,(wrap64 (Int.tmod (IntKind.u64.wrap (a0)) 4)),0,0,([]:List (S45)),0⟩:S33),(⟨x855000_16,(wrap64 (Int.tmod (IntKind.u64.wrap (a1)) 4)),0,0,([]:List (S45)),0⟩:S33),(⟨6,0,0,0,([]:List (S45)),0⟩:S33),(⟨13,0,0,0,y859,0⟩:S33)]:List (S33)):List (S33))).bind fun y862=>((zAG.f kj16 (⟨#[112]⟩:ByteArray) y855 0 y862).bind fun bt865=>(if x854000_6=x855000_16 then (zAF.j2 kj16 bt865.1 bt865.2.1 bt865.2.2 ((wrap64 (Int.tmod (IntKind.u64.wrap (a0)) 4)) != (wrap64 (Int.tmod (IntKind.u64.wrap (a1)) 4))) x854000_6 (wrap64 (Int.tmod (IntKind.u64.wrap (a0)) 4)) 0 0 0 (⟨#[112]⟩:ByteArray) y855 0 y862) else (zAF.j2 kj16 bt865.1 bt865.2.1 bt865.2.2 true x854000_6 (wrap64 (Int.tmod (IntKind.u64.wrap (a0)) 4)) 0 0 0 (⟨#[112]⟩:ByteArray) y855 0 y862))))=some r:=by first|(rw [hy859];with_reducible exact H)|(have H2_:=(Option.bind_some _ _).symm.trans H;rw [hy859];with_reducible exact H2_)|(have H2_:=(Option.bind_some _ _).symm.trans H;with_reducible exact H2_)|with_reducible exact H|(rw [hy859];exact H)|exact H
 have Ny859:=aK_ hy859
 clear hy859
 obtain ⟨y862,hy862⟩:∃ y_:List (S33),y_=(([(⟨x854000_6,(wrap64 (Int.tmod (IntKind.u64.wrap (a0)) 4)),0,0,([]:List (S45)),0⟩:S33),(⟨x855000_16,(wrap64 (Int.tmod (IntKind.u64.wrap (a1)) 4)),0,0,([]:List (S45)),0⟩:S33),(⟨6,0,0,0,([]:List (S45)),0⟩:S33),(⟨13,0,0,0,y859,0⟩:S33)]:List (S33))):=⟨_,rfl⟩
 replace H:((zAG.f kj16 (⟨#[112]⟩:ByteArray) y855 0 y862).bind fun bt865=>(if x854000_6=x855000_16 then (zAF.j2 kj16 bt865.1 bt865.2.1 bt865.2.2 ((wrap64 (Int.tmod (IntKind.u64.wrap (a0)) 4)) != (wrap64 (Int.tmod (IntKind.u64.wrap (a1)) 4))) x854000_6 (wrap64 (Int.tmod (IntKind.u64.wrap (a0)) 4)) 0 0 0 (⟨#[112]⟩:ByteArray) y855 0 y862) else (zAF.j2 kj16 bt865.1 bt865.2.1 bt865.2.2 true x854000_6 (wrap64 (Int.tmod (IntKind.u64.wrap (a0)) 4)) 0 0 0 (⟨#[112]⟩:ByteArray) y855 0 y862)))=some r:=by first|(rw [hy862];with_reducible exact H)|(have H2_:=(Option.bind_some _ _).symm.trans H;rw [hy862];with_reducible exact H2_)|(have H2_:=(Option.bind_some _ _).symm.trans H;with_reducible exact H2_)|with_reducible exact H|(rw [hy862];exact H)|exact H
 have Ny862:=aK_ hy862
 clear hy862
 replace H:=Option.bind_eq_some_iff.mp H
 obtain ⟨⟨t865,t868,t869⟩,A210,H⟩:=H
 replace H:(if x854000_6=x855000_16 then (zAF.j2 kj16 t865 t868 t869 ((wrap64 (Int.tmod (IntKind.u64.wrap (a0)) 4)) != (wrap64 (Int.tmod (IntKind.u64.wrap (a1)) 4))) x854000_6 (wrap64 (Int.tmod (IntKind.u64.wrap (a0)) 4)) 0 0 0 (⟨#[112]⟩:ByteArray) y855 0 y862) else (zAF.j2 kj16 t865 t868 t869 true x854000_6 (wrap64 (Int.tmod (IntKind.u64.wrap (a0)) 4)) 0 0 0 (⟨#[112]⟩:ByteArray) y855 0 y862))=some r:=H
 have A21:=aK_ A210
 clear A210
 have HC22:=aK_ H
 clear H
 go_upto_region 12 with (first|((with_reducible refine zAO (N:=35) rfl ?_);(try (refine zAP (by rfl) ?_;dsimp only));refine Kd.R_lit k47 _ 47 ?hg (N:=35) ?hd (xs:=([(⟨(⟨#[97]⟩:ByteArray),1⟩:S47),(⟨(⟨#[98]⟩:ByteArray),2⟩:S47),(⟨(⟨#[99]⟩:ByteArray),3⟩:S47),(⟨(⟨#[100]⟩:ByteArray),4⟩:S47)]:List (S47))) (inner:=[.string (⟨#[97]⟩:ByteArray),.int .i64 1,.string (⟨#[98]⟩:ByteArray),.int .i64 2,.string (⟨#[99]⟩:ByteArray),.int .i64 3,.string (⟨#[100]⟩:ByteArray),.int .i64 4]) (ok:=fun _=>True) (okp:=fun _=>True) ?hr ?hp (fun _ hk=>hk) trivial (Below.refl _ _) (Nat.le_refl _) (by simp) ?_;(case hd=>rfl);(case hg=>rfl);(case hr=>first|(go_simp;done)|(go_simp;rfl));(case hp=>exact (Reps.c2 (show Kd.M k47 _ _ _ (⟨(⟨#[97]⟩:ByteArray),1⟩:S47) [.string (⟨#[97]⟩:ByteArray),.int .i64 1] from (k47_mkM _ _ _ (⟨(⟨#[97]⟩:ByteArray),1⟩:S47) )) (Reps.c2 (show Kd.M k47 _ _ _ (⟨(⟨#[98]⟩:ByteArray),2⟩:S47) [.string (⟨#[98]⟩:ByteArray),.int .i64 2] from (k47_mkM _ _ _ (⟨(⟨#[98]⟩:ByteArray),2⟩:S47) )) (Reps.c2 (show Kd.M k47 _ _ _ (⟨(⟨#[99]⟩:ByteArray),3⟩:S47) [.string (⟨#[99]⟩:ByteArray),.int .i64 3] from (k47_mkM _ _ _ (⟨(⟨#[99]⟩:ByteArray),3⟩:S47) )) (Reps.c2 (show Kd.M k47 _ _ _ (⟨(⟨#[100]⟩:ByteArray),4⟩:S47) [.string (⟨#[100]⟩:ByteArray),.int .i64 4] from (k47_mkM _ _ _ (⟨(⟨#[100]⟩:ByteArray),4⟩:S47) )) (Reps.none _ _))))));intro v856 w23 ho24 hb hg_ hnew_;clear hg_ hnew_;(first|rw [← Ny855.out] at ho24|(simp only [Int.reduceToNat] at ho24;rw [← Ny855.out] at ho24));have n0_:=aK_ (Kd.R_lower ho24 (zAD (aJ_ HB.out GE853.out GE854.out)));have n1_:=aK_ (zAI (g:=gb853) (o:=.cells #[.int .i64 x854000_6,.int .i64 (wrap64 (Int.tmod (IntKind.u64.wrap (a0)) 4)),.int .i64 0,.int .i64 0,.slice none 0 0,.int .i64 0] 33 (0,0)) (aB_ BK853.out) hb);have n2_:=aK_ (zAI (g:=gb854) (o:=.cells #[.int .i64 x855000_16,.int .i64 (wrap64 (Int.tmod (IntKind.u64.wrap (a1)) 4)),.int .i64 0,.int .i64 0,.slice none 0 0,.int .i64 0] 33 (0,0)) (aB_ BK854.out) hb);have n3_:=aK_ (zAH (aJ_ HB.out GE853.out GE854.out) hb);clear BK853;clear BK854;clear HB;have HO857:=n0_;have BK853:=n1_;have BK854:=n2_;have HB:=n3_;clear n0_ n1_ n2_ n3_;clear hb ho24;obtain ⟨Ao25,co25,eo25⟩:=Kd.R_slice HO857.out;subst eo25)|((with_reducible refine zAO (N:=11) rfl ?_);(try (refine zAP (by rfl) ?_;dsimp only));refine zAR ?hg (N:=11) ?hd (cs:=#[.string (⟨#[]⟩:ByteArray),.slice none 0 0,.int .i64 0,.slice none 0 0]) (t:=25) ?hr ?_;(case hd=>rfl);(case hg=>rfl);(case hr=>first|(go_simp;done)|(go_simp;rfl));intro gb858 hg w26 hbox hb;have n0_:=aK_ (Kd.R_below (aR_ HO857.out) hb);have n1_:=aK_ (zAI (g:=gb853) (o:=.cells #[.int .i64 x854000_6,.int .i64 (wrap64 (Int.tmod (IntKind.u64.wrap (a0)) 4)),.int .i64 0,.int .i64 0,.slice none 0 0,.int .i64 0] 33 (0,0)) (aB_ BK853.out) hb);have n2_:=aK_ (zAI (g:=gb854) (o:=.cells #[.int .i64 x855000_16,.int .i64 (wrap64 (Int.tmod (IntKind.u64.wrap (a1)) 4)),.int .i64 0,.int .i64 0,.slice none 0 0,.int .i64 0] 33 (0,0)) (aB_ BK854.out) hb);have n3_:=aK_ (zAH (aJ_ HB.out GE853.out GE854.out) hb);have n4_:=aK_ (hbox);have n5_:=aK_ ((by rw [hg];exact (zAD (aJ_ HB.out GE853.out GE854.out)):w.heap.size≤gb858));have n6_:=aK_ ((by rw [hg];exact (zAD (aJ_ HB.out GE853.out GE854.out)):w.heap.size≤gb858));have n7_:=aK_ ((by rw [hg];exact Nat.ne_of_lt (blk_lt (g:=gb853) (o:=.cells #[.int .i64 x854000_6,.int .i64 (wrap64 (Int.tmod (IntKind.u64.wrap (a0)) 4)),.int .i64 0,.int .i64 0,.slice none 0 0,.int .i64 0] 33 (0,0)) (aB_ BK853.out)):gb853≠gb858));have n8_:=aK_ ((by rw [hg];exact Nat.ne_of_gt (blk_lt (g:=gb853) (o:=.cells #[.int .i64 x854000_6,.int .i64 (wrap64 (Int.tmod (IntKind.u64.wrap (a0)) 4)),.int .i64 0,.int .i64 0,.slice none 0 0,.int .i64 0] 33 (0,0)) (aB_ BK853.out)):gb858≠gb853));have n9_:=aK_ ((by rw [hg];exact Nat.ne_of_lt (blk_lt (g:=gb854) (o:=.cells #[.int .i64 x855000_16,.int .i64 (wrap64 (Int.tmod (IntKind.u64.wrap (a1)) 4)),.int .i64 0,.int .i64 0,.slice none 0 0,.int .i64 0] 33 (0,0)) (aB_ BK854.out)):gb854≠gb858));have n10_:=aK_ ((by rw [hg];exact Nat.ne_of_gt (blk_lt (g:=gb854) (o:=.cells #[.int .i64 x855000_16,.int .i64 (wrap64 (Int.tmod (IntKind.u64.wrap (a1)) 4)),.int .i64 0,.int .i64 0,.slice none 0 0,.int .i64 0] 33 (0,0)) (aB_ BK854.out)):gb858≠gb854));clear HO857;clear BK853;clear BK854;clear HB;have HO857:=n0_;have BK853:=n1_;have BK854:=n2_;have HB:=n3_;have BK858:=n4_;have GW858:=n5_;have GE858:=n6_;have NB853_858:=n7_;have NB858_853:=n8_;have NB854_858:=n9_;have NB858_854:=n10_;clear n0_ n1_ n2_ n3_ n4_ n5_ n6_ n7_ n8_ n9_ n10_;clear hb hbox hg;have hnb27:=NB858_853.out;have hnc27:=NB853_858.out;have hnb28:=NB858_854.out;have hnc28:=NB854_858.out;have hcz29_0:w26.cell? ⟨gb858,0,none⟩=some (.string (⟨#[]⟩:ByteArray)):=(zAB BK858.out 0).trans rfl;have hcz29_1:w26.cell? ⟨gb858,1,none⟩=some (.slice none 0 0):=(zAB BK858.out 1).trans rfl;have hcz29_2:w26.cell? ⟨gb858,2,none⟩=some (.int .i64 0):=(zAB BK858.out 2).trans rfl;have hcz29_3:w26.cell? ⟨gb858,3,none⟩=some (.slice none 0 0):=(zAB BK858.out 3).trans rfl;have hfz29_0:=zAA BK858.out 0;have hfz29_1:=zAA BK858.out 1;have hfz29_2:=zAA BK858.out 2;have hfz29_3:=zAA BK858.out 3)|((with_reducible refine gate_store (t:=25) (p:=11) rfl ?_);(try (rw [drewN_self w26];generalize hq_:World.drewN w26 _=w26;have n0_:=aK_ (Kd.R_at hq_ HO857.out);have n1_:=aK_ (blk_at hq_ BK853.out);have n2_:=aK_ (blk_at hq_ BK854.out);have n3_:=aK_ (blk_at hq_ BK858.out);have n4_:=aK_ (below_at hq_ HB.out);clear hq_ HO857 BK853 BK854 BK858 HB;have HO857:=n0_;have BK853:=n1_;have BK854:=n2_;have BK858:=n3_;have HB:=n4_;clear n0_ n1_ n2_ n3_ n4_));refine store_event (t:=25) (p:=11) (v:=?vo_w30) (w1:=((((w26.setCell ⟨gb858,0,none⟩ (.string (⟨#[112]⟩:ByteArray))).setCell ⟨gb858,1,none⟩ (.slice Ao25 y855.length co25)).setCell ⟨gb858,2,none⟩ (.int .i64 0)).setCell ⟨gb858,3,none⟩ (.slice none 0 0))) ?hg ?ho ?hn ?hr ?_;(case ho=>rfl);(case hg=>rfl);(case hn=>rfl);(case hr=>first|(go_simp;done)|(go_simp;rfl));intro w30 hw;have n0_:zAY (Kd.R k47 47 w30 w.heap.size (fun _=>True) (.slice Ao25 y855.length co25) y855):=⟨(by rw [hw];exact (by refine aR_ ?_;exact Kd.R_mono (Kd.R_far (p:=⟨gb858,3,none⟩) (Kd.R_far (p:=⟨gb858,2,none⟩) (Kd.R_far (p:=⟨gb858,1,none⟩) (Kd.R_far (p:=⟨gb858,0,none⟩) (Kd.R_types HO857.out BK858.out (by decide)) (fun _ hk=>hk.2) (.string (⟨#[112]⟩:ByteArray))) (fun _ hk=>hk.2) (.slice Ao25 y855.length co25)) (fun _ hk=>hk.2) (.int .i64 0)) (fun _ hk=>hk.2) (.slice none 0 0)) (fun _ hk=>trivial)))⟩;have n1_:zAY (w30.heap[gb853]?=some (.cells #[.int .i64 x854000_6,.int .i64 (wrap64 (Int.tmod (IntKind.u64.wrap (a0)) 4)),.int .i64 0,.int .i64 0,.slice none 0 0,.int .i64 0] 33 (0,0))):=⟨(by rw [hw];exact (by refine aB_ ?_;refine zAV ?_ NB853_858.out _;refine aB_ ?_;refine zAV ?_ NB853_858.out _;refine aB_ ?_;refine zAV ?_ NB853_858.out _;refine aB_ ?_;refine zAV ?_ NB853_858.out _;refine aB_ ?_;exact BK853.out))⟩;have n2_:zAY (w30.heap[gb854]?=some (.cells #[.int .i64 x855000_16,.int .i64 (wrap64 (Int.tmod (IntKind.u64.wrap (a1)) 4)),.int .i64 0,.int .i64 0,.slice none 0 0,.int .i64 0] 33 (0,0))):=⟨(by rw [hw];exact (by refine aB_ ?_;refine zAV ?_ NB854_858.out _;refine aB_ ?_;refine zAV ?_ NB854_858.out _;refine aB_ ?_;refine zAV ?_ NB854_858.out _;refine aB_ ?_;refine zAV ?_ NB854_858.out _;refine aB_ ?_;exact BK854.out))⟩;have n3_:zAY (w30.heap[gb858]?=some (.cells #[.string (⟨#[112]⟩:ByteArray),.slice Ao25 y855.length co25,.int .i64 0,.slice none 0 0] 25 (0,0))):=⟨(by rw [hw];exact (by refine aB_ ?_;refine zAN (cs:=#[.string (⟨#[112]⟩:ByteArray),.slice Ao25 y855.length co25,.int .i64 0,.slice none 0 0]) ?_ 3 _ rfl;refine aB_ ?_;refine zAN (cs:=#[.string (⟨#[112]⟩:ByteArray),.slice Ao25 y855.length co25,.int .i64 0,.slice none 0 0]) ?_ 2 _ rfl;refine aB_ ?_;refine zAN (cs:=#[.string (⟨#[112]⟩:ByteArray),.slice none 0 0,.int .i64 0,.slice none 0 0]) ?_ 1 _ rfl;refine aB_ ?_;refine zAN (cs:=#[.string (⟨#[]⟩:ByteArray),.slice none 0 0,.int .i64 0,.slice none 0 0]) ?_ 0 _ rfl;refine aB_ ?_;exact BK858.out))⟩;have n4_:zAY (Below w.heap.size w w30):=⟨(by rw [hw];exact (aQ_ HB.out GE853.out GE854.out GE858.out))⟩;clear hw;clear HO857;clear BK853;clear BK854;clear BK858;clear HB;have HO857:=n0_;have BK853:=n1_;have BK854:=n2_;have BK858:=n3_;have HB:=n4_;clear n0_ n1_ n2_ n3_ n4_;have hnb31:=NB853_854.out;have hnc31:=NB854_853.out;have hcz32_0:w30.cell? ⟨gb853,0,none⟩=some (.int .i64 x854000_6):=(zAB BK853.out 0).trans rfl;have hcz32_1:w30.cell? ⟨gb853,1,none⟩=some (.int .i64 (wrap64 (Int.tmod (IntKind.u64.wrap (a0)) 4))):=(zAB BK853.out 1).trans rfl;have hcz32_2:w30.cell? ⟨gb853,2,none⟩=some (.int .i64 0):=(zAB BK853.out 2).trans rfl;have hcz32_3:w30.cell? ⟨gb853,3,none⟩=some (.int .i64 0):=(zAB BK853.out 3).trans rfl;have hcz32_4:w30.cell? ⟨gb853,4,none⟩=some (.slice none 0 0):=(zAB BK853.out 4).trans rfl;have hcz32_5:w30.cell? ⟨gb853,5,none⟩=some (.int .i64 0):=(zAB BK853.out 5).trans rfl;have hfz32_0:=zAA BK853.out 0;have hfz32_1:=zAA BK853.out 1;have hfz32_2:=zAA BK853.out 2;have hfz32_3:=zAA BK853.out 3;have hfz32_4:=zAA BK853.out 4;have hfz32_5:=zAA BK853.out 5;have hcz33_0:w30.cell? ⟨gb854,0,none⟩=some (.int .i64 x855000_16):=(zAB BK854.out 0).trans rfl;have hcz33_1:w30.cell? ⟨gb854,1,none⟩=some (.int .i64 (wrap64 (Int.tmod (IntKind.u64.wrap (a1)) 4))):=(zAB BK854.out 1).trans rfl;have hcz33_2:w30.cell? ⟨gb854,2,none⟩=some (.int .i64 0):=(zAB BK854.out 2).trans rfl;have hcz33_3:w30.cell? ⟨gb854,3,none⟩=some (.int .i64 0):=(zAB BK854.out 3).trans rfl;have hcz33_4:w30.cell? ⟨gb854,4,none⟩=some (.slice none 0 0):=(zAB BK854.out 4).trans rfl;have hcz33_5:w30.cell? ⟨gb854,5,none⟩=some (.int .i64 0):=(zAB BK854.out 5).trans rfl;have hfz33_0:=zAA BK854.out 0;have hfz33_1:=zAA BK854.out 1;have hfz33_2:=zAA BK854.out 2;have hfz33_3:=zAA BK854.out 3;have hfz33_4:=zAA BK854.out 4;have hfz33_5:=zAA BK854.out 5)|((with_reducible refine zAO (N:=41) rfl ?_);(try (refine zAP (by rfl) ?_;dsimp only));refine Kd.R_lit k45 _ 45 ?hg (N:=41) ?hd (xs:=([(⟨0,5⟩:S45)]:List (S45))) (inner:=[.int .i64 0,.int .i64 5]) (ok:=fun _=>True) (okp:=fun _=>True) ?hr ?hp (fun _ hk=>hk) trivial (Below.refl _ _) (Nat.le_refl _) (by simp) ?_;(case hd=>rfl);(case hg=>rfl);(case hr=>first|(go_simp;done)|(go_simp;rfl));(case hp=>exact (Reps.c2 (show Kd.M k45 _ _ _ (⟨0,5⟩:S45) [.int .i64 0,.int .i64 5] from (k45_mkM _ _ _ (⟨0,5⟩:S45) )) (Reps.none _ _)));intro v860 w34 ho35 hb hg_ hnew_;clear hg_ hnew_;(first|rw [← Ny859.out] at ho35|(simp only [Int.reduceToNat] at ho35;rw [← Ny859.out] at ho35));have n0_:=aK_ (Kd.R_below (aR_ HO857.out) hb);have n1_:=aK_ (Kd.R_lower ho35 (zAD (aQ_ HB.out GE853.out GE854.out GE858.out)));have n2_:=aK_ (zAI (g:=gb853) (o:=.cells #[.int .i64 x854000_6,.int .i64 (wrap64 (Int.tmod (IntKind.u64.wrap (a0)) 4)),.int .i64 0,.int .i64 0,.slice none 0 0,.int .i64 0] 33 (0,0)) (aB_ BK853.out) hb);have n3_:=aK_ (zAI (g:=gb854) (o:=.cells #[.int .i64 x855000_16,.int .i64 (wrap64 (Int.tmod (IntKind.u64.wrap (a1)) 4)),.int .i64 0,.int .i64 0,.slice none 0 0,.int .i64 0] 33 (0,0)) (aB_ BK854.out) hb);have n4_:=aK_ (zAI (g:=gb858) (o:=.cells #[.string (⟨#[112]⟩:ByteArray),.slice Ao25 y855.length co25,.int .i64 0,.slice none 0 0] 25 (0,0)) (aB_ BK858.out) hb);have n5_:=aK_ (zAH (aQ_ HB.out GE853.out GE854.out GE858.out) hb);clear HO857;clear BK853;clear BK854;clear BK858;clear HB;have HO857:=n0_;have HO861:=n1_;have BK853:=n2_;have BK854:=n3_;have BK858:=n4_;have HB:=n5_;clear n0_ n1_ n2_ n3_ n4_ n5_;clear hb ho35;obtain ⟨Ao36,co36,eo36⟩:=Kd.R_slice HO861.out;subst eo36)|((with_reducible refine zAO (N:=43) rfl ?_);(try (refine zAP (by rfl) ?_;dsimp only));refine Kd.N_lit k33 _ 33 ?hg (N':=43) ?hd (xs:=([(⟨x854000_6,(wrap64 (Int.tmod (IntKind.u64.wrap (a0)) 4)),0,0,([]:List (S45)),0⟩:S33),(⟨x855000_16,(wrap64 (Int.tmod (IntKind.u64.wrap (a1)) 4)),0,0,([]:List (S45)),0⟩:S33),(⟨6,0,0,0,([]:List (S45)),0⟩:S33),(⟨13,0,0,0,y859,0⟩:S33)]:List (S33))) (inner:=[.int .i64 x854000_6,.int .i64 (wrap64 (Int.tmod (IntKind.u64.wrap (a0)) 4)),.int .i64 0,.int .i64 0,.slice none 0 0,.int .i64 0,.int .i64 x855000_16,.int .i64 (wrap64 (Int.tmod (IntKind.u64.wrap (a1)) 4)),.int .i64 0,.int .i64 0,.slice none 0 0,.int .i64 0,.int .i64 6,.int .i64 0,.int .i64 0,.int .i64 0,.slice none 0 0,.int .i64 0,.int .i64 13,.int .i64 0,.int .i64 0,.int .i64 0,.slice Ao36 y859.length co36,.int .i64 0]) (ok:=(fun k_=>some k_≠(.slice Ao25 y855.length co25:Value).ownBlock∧k_≠gb853∧k_≠gb854∧k_≠gb858)) (okp:=(fun k_=>some k_≠(.slice Ao25 y855.length co25:Value).ownBlock∧k_≠gb853∧k_≠gb854∧k_≠gb858)) ?hr ?hp (fun _ hk=>hk) ((show ∀ k_,w34.heap.size≤k_→(fun k_=>some k_≠(.slice Ao25 y855.length co25:Value).ownBlock∧k_≠gb853∧k_≠gb854∧k_≠gb858) k_ from fun k_ hk=>⟨Kd.fresh' (Kd.R_lt (aR_ HO857.out)) k_ hk,Kd.freshB (g:=gb853) (o:=.cells #[.int .i64 x854000_6,.int .i64 (wrap64 (Int.tmod (IntKind.u64.wrap (a0)) 4)),.int .i64 0,.int .i64 0,.slice none 0 0,.int .i64 0] 33 (0,0)) (aB_ BK853.out) k_ hk,Kd.freshB (g:=gb854) (o:=.cells #[.int .i64 x855000_16,.int .i64 (wrap64 (Int.tmod (IntKind.u64.wrap (a1)) 4)),.int .i64 0,.int .i64 0,.slice none 0 0,.int .i64 0] 33 (0,0)) (aB_ BK854.out) k_ hk,Kd.freshB (g:=gb858) (o:=.cells #[.string (⟨#[112]⟩:ByteArray),.slice Ao25 y855.length co25,.int .i64 0,.slice none 0 0] 25 (0,0)) (aB_ BK858.out) k_ hk⟩) _ (Nat.le_refl _)) (Below.refl _ _) (Nat.le_refl _) (by simp) ?_;(case hd=>rfl);(case hg=>rfl);(case hr=>first|(go_simp;done)|(go_simp;rfl));(case hp=>exact (Reps.c6 (show Kd.FK k33 _ _ (⟨x854000_6,(wrap64 (Int.tmod (IntKind.u64.wrap (a0)) 4)),0,0,([]:List (S45)),0⟩:S33) [.int .i64 x854000_6,.int .i64 (wrap64 (Int.tmod (IntKind.u64.wrap (a0)) 4)),.int .i64 0,.int .i64 0,.slice none 0 0,.int .i64 0] from (k33_mkF _ _ (⟨x854000_6,(wrap64 (Int.tmod (IntKind.u64.wrap (a0)) 4)),0,0,([]:List (S45)),0⟩:S33) (Nat.le_refl _) (Kd.F_nil _ _ _))) (Reps.c6 (show Kd.FK k33 _ _ (⟨x855000_16,(wrap64 (Int.tmod (IntKind.u64.wrap (a1)) 4)),0,0,([]:List (S45)),0⟩:S33) [.int .i64 x855000_16,.int .i64 (wrap64 (Int.tmod (IntKind.u64.wrap (a1)) 4)),.int .i64 0,.int .i64 0,.slice none 0 0,.int .i64 0] from (k33_mkF _ _ (⟨x855000_16,(wrap64 (Int.tmod (IntKind.u64.wrap (a1)) 4)),0,0,([]:List (S45)),0⟩:S33) (Nat.le_refl _) (Kd.F_nil _ _ _))) (Reps.c6 (show Kd.FK k33 _ _ (⟨6,0,0,0,([]:List (S45)),0⟩:S33) [.int .i64 6,.int .i64 0,.int .i64 0,.int .i64 0,.slice none 0 0,.int .i64 0] from (k33_mkF _ _ (⟨6,0,0,0,([]:List (S45)),0⟩:S33) (Nat.le_refl _) (Kd.F_nil _ _ _))) (Reps.c6 (show Kd.FK k33 _ _ (⟨13,0,0,0,y859,0⟩:S33) [.int .i64 13,.int .i64 0,.int .i64 0,.int .i64 0,.slice Ao36 y859.length co36,.int .i64 0] from (k33_mkF _ _ (⟨13,0,0,0,y859,0⟩:S33) (Kd.R_reads' (Kd.R_mono (ok':=(fun k_=>some k_≠(.slice Ao25 y855.length co25:Value).ownBlock∧k_≠gb853∧k_≠gb854∧k_≠gb858)) (Kd.R_types (Kd.R_types (Kd.R_types (Kd.R_apart' (HO861.out) (Kd.R_typed HO857.out) (by decide)) BK853.out (by decide)) BK854.out (by decide)) BK858.out (by decide)) (fun k_ hk=>⟨hk.1.1.1.2,⟨hk.1.1.2,⟨hk.1.2,hk.2⟩⟩⟩))).2.1 (Kd.R_F (Kd.R_mono (ok':=(fun k_=>some k_≠(.slice Ao25 y855.length co25:Value).ownBlock∧k_≠gb853∧k_≠gb854∧k_≠gb858)) (Kd.R_types (Kd.R_types (Kd.R_types (Kd.R_apart' (HO861.out) (Kd.R_typed HO857.out) (by decide)) BK853.out (by decide)) BK854.out (by decide)) BK858.out (by decide)) (fun k_ hk=>⟨hk.1.1.1.2,⟨hk.1.1.2,⟨hk.1.2,hk.2⟩⟩⟩))))) (Reps.none _ _))))));intro v863 w37 ho38 hb hg_ hnew_;clear hg_ hnew_;(first|rw [← Ny862.out] at ho38|(simp only [Int.reduceToNat] at ho38;rw [← Ny862.out] at ho38));have n0_:=aK_ (Kd.R_below (aR_ HO857.out) hb);have n1_:=aK_ (Kd.N_lower ho38 (zAD (aQ_ HB.out GE853.out GE854.out GE858.out)));have n2_:=aK_ (zAI (g:=gb853) (o:=.cells #[.int .i64 x854000_6,.int .i64 (wrap64 (Int.tmod (IntKind.u64.wrap (a0)) 4)),.int .i64 0,.int .i64 0,.slice none 0 0,.int .i64 0] 33 (0,0)) (aB_ BK853.out) hb);have n3_:=aK_ (zAI (g:=gb854) (o:=.cells #[.int .i64 x855000_16,.int .i64 (wrap64 (Int.tmod (IntKind.u64.wrap (a1)) 4)),.int .i64 0,.int .i64 0,.slice none 0 0,.int .i64 0] 33 (0,0)) (aB_ BK854.out) hb);have n4_:=aK_ (zAI (g:=gb858) (o:=.cells #[.string (⟨#[112]⟩:ByteArray),.slice Ao25 y855.length co25,.int .i64 0,.slice none 0 0] 25 (0,0)) (aB_ BK858.out) hb);have n5_:=aK_ (zAH (aQ_ HB.out GE853.out GE854.out GE858.out) hb);clear HO857;clear BK853;clear BK854;clear BK858;clear HB;clear HO861;have HO857:=n0_;have HO864:=n1_;have BK853:=n2_;have BK854:=n3_;have BK858:=n4_;have HB:=n5_;clear n0_ n1_ n2_ n3_ n4_ n5_;clear hb ho38;obtain ⟨Ao39,co39,eo39⟩:=Kd.N_slice HO864.out;subst eo39;have hcz40_0:w37.cell? ⟨gb858,0,none⟩=some (.string (⟨#[112]⟩:ByteArray)):=(zAB BK858.out 0).trans rfl;have hcz40_1:w37.cell? ⟨gb858,1,none⟩=some (.slice Ao25 y855.length co25):=(zAB BK858.out 1).trans rfl;have hcz40_2:w37.cell? ⟨gb858,2,none⟩=some (.int .i64 0):=(zAB BK858.out 2).trans rfl;have hcz40_3:w37.cell? ⟨gb858,3,none⟩=some (.slice none 0 0):=(zAB BK858.out 3).trans rfl;have hfz40_0:=zAA BK858.out 0;have hfz40_1:=zAA BK858.out 1;have hfz40_2:=zAA BK858.out 2;have hfz40_3:=zAA BK858.out 3)|(go_at_call 33;(with_reducible refine (zAG.calls kj16 (⟨#[112]⟩:ByteArray) _ _ y855 0 _ _ y862 t865 t868 t869 _ ?side1 ?side2 ?side3 ?side4 ?side5 A21.out).mono ?_);(case side1=>(first|(with_reducible exact hG)|((repeat (with_reducible first|exact hG|apply GW.drewN|apply GW.drew|apply GW.alloc));done)|exact GW.below hG (aQ_ HB.out GE853.out GE854.out GE858.out)));(case side2=>refine (Kd.R_reads' (e:=47) (base:=w.heap.size) (ok:=fun k_=>True) (n:=y855.length) (c:=co25) ?_).2.2;exact (by refine aR_ ?_;exact (Kd.R_mono (Kd.R_far (p:=⟨gb858,3,none⟩) (Kd.R_types HO857.out BK858.out (by decide)) (fun _ hk=>hk.2) (.slice Ao39 y862.length co39)) (fun _ h_=>h_.1))));(case side3=>exact (Kd.R_reads' HO857.out).2.1);(case side4=>refine (Kd.N_reads' (e:=33) (base:=w.heap.size) (ok:=fun k_=>(some k_≠(.slice Ao25 y855.length co25:Value).ownBlock∧(k_≠gb853∧(k_≠gb854∧k_≠gb858)))) (n:=y862.length) (c:=co39) ?_).2.2;exact (by refine aN_ ?_;exact (Kd.N_mono (Kd.N_far (p:=⟨gb858,3,none⟩) (Kd.N_mono HO864.out (fun k_ hk=>(⟨hk,hk.2.2.2⟩:_∧k_≠gb858))) (fun _ hk=>hk.2) (.slice Ao39 y862.length co39)) (fun _ h_=>h_.1))));(case side5=>exact (Kd.N_reads' HO864.out).2.1);rintro e w41 ⟨v866,rfl,ho0,hb⟩;have n0_:=aK_ (Kd.R_below (by refine aR_ ?_;exact (Kd.R_mono (Kd.R_far (p:=⟨gb858,3,none⟩) (Kd.R_types HO857.out BK858.out (by decide)) (fun _ hk=>hk.2) (.slice Ao39 y862.length co39)) (fun _ h_=>h_.1))) hb);have n1_:=aK_ (Kd.N_elder' (by refine aN_ ?_;exact (Kd.N_mono (Kd.N_far (p:=⟨gb858,3,none⟩) (Kd.N_mono HO864.out (fun k_ hk=>(⟨hk,hk.2.2.2⟩:_∧k_≠gb858))) (fun _ hk=>hk.2) (.slice Ao39 y862.length co39)) (fun _ h_=>h_.1))) (Kd.R_base ho0) hb);have n2_:=aK_ (Kd.R_lower ho0 (zAD (aQ_ HB.out GE853.out GE854.out GE858.out)));have n3_:=aK_ (zAI (g:=gb853) (o:=.cells #[.int .i64 x854000_6,.int .i64 (wrap64 (Int.tmod (IntKind.u64.wrap (a0)) 4)),.int .i64 0,.int .i64 0,.slice none 0 0,.int .i64 0] 33 (0,0)) (by refine aB_ ?_;refine zAV ?_ NB853_858.out _;refine aB_ ?_;exact BK853.out) hb);have n4_:=aK_ (zAI (g:=gb854) (o:=.cells #[.int .i64 x855000_16,.int .i64 (wrap64 (Int.tmod (IntKind.u64.wrap (a1)) 4)),.int .i64 0,.int .i64 0,.slice none 0 0,.int .i64 0] 33 (0,0)) (by refine aB_ ?_;refine zAV ?_ NB854_858.out _;refine aB_ ?_;exact BK854.out) hb);have n5_:=aK_ (zAI (g:=gb858) (o:=.cells #[.string (⟨#[112]⟩:ByteArray),.slice Ao25 y855.length co25,.int .i64 0,.slice Ao39 y862.length co39] 25 (0,0)) (by refine aB_ ?_;refine zAN (cs:=#[.string (⟨#[112]⟩:ByteArray),.slice Ao25 y855.length co25,.int .i64 0,.slice none 0 0]) ?_ 3 _ rfl;refine aB_ ?_;exact BK858.out) hb);have n6_:=aK_ (zAH (aQ_ HB.out GE853.out GE854.out GE858.out) hb);clear HO857;clear HO864;clear BK853;clear BK854;clear BK858;clear HB;have HO857:=n0_;have HO864:=n1_;have HO867:=n2_;have BK853:=n3_;have BK854:=n4_;have BK858:=n5_;have HB:=n6_;clear n0_ n1_ n2_ n3_ n4_ n5_ n6_;(try clear hb);(try clear hb2);(try clear hk);(try clear hi);(try clear ho0)))
 repeat (go_quiet (first|((with_reducible refine zAO (N:=35) rfl ?_);(try (refine zAP (by rfl) ?_;dsimp only));refine Kd.R_lit k47 _ 47 ?hg (N:=35) ?hd (xs:=([(⟨(⟨#[97]⟩:ByteArray),1⟩:S47),(⟨(⟨#[98]⟩:ByteArray),2⟩:S47),(⟨(⟨#[99]⟩:ByteArray),3⟩:S47),(⟨(⟨#[100]⟩:ByteArray),4⟩:S47)]:List (S47))) (inner:=[.string (⟨#[97]⟩:ByteArray),.int .i64 1,.string (⟨#[98]⟩:ByteArray),.int .i64 2,.string (⟨#[99]⟩:ByteArray),.int .i64 3,.string (⟨#[100]⟩:ByteArray),.int .i64 4]) (ok:=fun _=>True) (okp:=fun _=>True) ?hr ?hp (fun _ hk=>hk) trivial (Below.refl _ _) (Nat.le_refl _) (by simp) ?_;(case hd=>rfl);(case hg=>rfl);(case hr=>first|(go_simp;done)|(go_simp;rfl));(case hp=>exact (Reps.c2 (show Kd.M k47 _ _ _ (⟨(⟨#[97]⟩:ByteArray),1⟩:S47) [.string (⟨#[97]⟩:ByteArray),.int .i64 1] from (k47_mkM _ _ _ (⟨(⟨#[97]⟩:ByteArray),1⟩:S47) )) (Reps.c2 (show Kd.M k47 _ _ _ (⟨(⟨#[98]⟩:ByteArray),2⟩:S47) [.string (⟨#[98]⟩:ByteArray),.int .i64 2] from (k47_mkM _ _ _ (⟨(⟨#[98]⟩:ByteArray),2⟩:S47) )) (Reps.c2 (show Kd.M k47 _ _ _ (⟨(⟨#[99]⟩:ByteArray),3⟩:S47) [.string (⟨#[99]⟩:ByteArray),.int .i64 3] from (k47_mkM _ _ _ (⟨(⟨#[99]⟩:ByteArray),3⟩:S47) )) (Reps.c2 (show Kd.M k47 _ _ _ (⟨(⟨#[100]⟩:ByteArray),4⟩:S47) [.string (⟨#[100]⟩:ByteArray),.int .i64 4] from (k47_mkM _ _ _ (⟨(⟨#[100]⟩:ByteArray),4⟩:S47) )) (Reps.none _ _))))));intro v856 w23 ho24 hb hg_ hnew_;clear hg_ hnew_;(first|rw [← Ny855.out] at ho24|(simp only [Int.reduceToNat] at ho24;rw [← Ny855.out] at ho24));have n0_:=aK_ (Kd.R_lower ho24 (zAD (aJ_ HB.out GE853.out GE854.out)));have n1_:=aK_ (zAI (g:=gb853) (o:=.cells #[.int .i64 x854000_6,.int .i64 (wrap64 (Int.tmod (IntKind.u64.wrap (a0)) 4)),.int .i64 0,.int .i64 0,.slice none 0 0,.int .i64 0] 33 (0,0)) (aB_ BK853.out) hb);have n2_:=aK_ (zAI (g:=gb854) (o:=.cells #[.int .i64 x855000_16,.int .i64 (wrap64 (Int.tmod (IntKind.u64.wrap (a1)) 4)),.int .i64 0,.int .i64 0,.slice none 0 0,.int .i64 0] 33 (0,0)) (aB_ BK854.out) hb);have n3_:=aK_ (zAH (aJ_ HB.out GE853.out GE854.out) hb);clear BK853;clear BK854;clear HB;have HO857:=n0_;have BK853:=n1_;have BK854:=n2_;have HB:=n3_;clear n0_ n1_ n2_ n3_;clear hb ho24;obtain ⟨Ao25,co25,eo25⟩:=Kd.R_slice HO857.out;subst eo25)|((with_reducible refine zAO (N:=11) rfl ?_);(try (refine zAP (by rfl) ?_;dsimp only));refine zAR ?hg (N:=11) ?hd (cs:=#[.string (⟨#[]⟩:ByteArray),.slice none 0 0,.int .i64 0,.slice none 0 0]) (t:=25) ?hr ?_;(case hd=>rfl);(case hg=>rfl);(case hr=>first|(go_simp;done)|(go_simp;rfl));intro gb858 hg w26 hbox hb;have n0_:=aK_ (Kd.R_below (aR_ HO857.out) hb);have n1_:=aK_ (zAI (g:=gb853) (o:=.cells #[.int .i64 x854000_6,.int .i64 (wrap64 (Int.tmod (IntKind.u64.wrap (a0)) 4)),.int .i64 0,.int .i64 0,.slice none 0 0,.int .i64 0] 33 (0,0)) (aB_ BK853.out) hb);have n2_:=aK_ (zAI (g:=gb854) (o:=.cells #[.int .i64 x855000_16,.int .i64 (wrap64 (Int.tmod (IntKind.u64.wrap (a1)) 4)),.int .i64 0,.int .i64 0,.slice none 0 0,.int .i64 0] 33 (0,0)) (aB_ BK854.out) hb);have n3_:=aK_ (zAH (aJ_ HB.out GE853.out GE854.out) hb);have n4_:=aK_ (hbox);have n5_:=aK_ ((by rw [hg];exact (zAD (aJ_ HB.out GE853.out GE854.out)):w.heap.size≤gb858));have n6_:=aK_ ((by rw [hg];exact (zAD (aJ_ HB.out GE853.out GE854.out)):w.heap.size≤gb858));have n7_:=aK_ ((by rw [hg];exact Nat.ne_of_lt (blk_lt (g:=gb853) (o:=.cells #[.int .i64 x854000_6,.int .i64 (wrap64 (Int.tmod (IntKind.u64.wrap (a0)) 4)),.int .i64 0,.int .i64 0,.slice none 0 0,.int .i64 0] 33 (0,0)) (aB_ BK853.out)):gb853≠gb858));have n8_:=aK_ ((by rw [hg];exact Nat.ne_of_gt (blk_lt (g:=gb853) (o:=.cells #[.int .i64 x854000_6,.int .i64 (wrap64 (Int.tmod (IntKind.u64.wrap (a0)) 4)),.int .i64 0,.int .i64 0,.slice none 0 0,.int .i64 0] 33 (0,0)) (aB_ BK853.out)):gb858≠gb853));have n9_:=aK_ ((by rw [hg];exact Nat.ne_of_lt (blk_lt (g:=gb854) (o:=.cells #[.int .i64 x855000_16,.int .i64 (wrap64 (Int.tmod (IntKind.u64.wrap (a1)) 4)),.int .i64 0,.int .i64 0,.slice none 0 0,.int .i64 0] 33 (0,0)) (aB_ BK854.out)):gb854≠gb858));have n10_:=aK_ ((by rw [hg];exact Nat.ne_of_gt (blk_lt (g:=gb854) (o:=.cells #[.int .i64 x855000_16,.int .i64 (wrap64 (Int.tmod (IntKind.u64.wrap (a1)) 4)),.int .i64 0,.int .i64 0,.slice none 0 0,.int .i64 0] 33 (0,0)) (aB_ BK854.out)):gb858≠gb854));clear HO857;clear BK853;clear BK854;clear HB;have HO857:=n0_;have BK853:=n1_;have BK854:=n2_;have HB:=n3_;have BK858:=n4_;have GW858:=n5_;have GE858:=n6_;have NB853_858:=n7_;have NB858_853:=n8_;have NB854_858:=n9_;have NB858_854:=n10_;clear n0_ n1_ n2_ n3_ n4_ n5_ n6_ n7_ n8_ n9_ n10_;clear hb hbox hg;have hnb27:=NB858_853.out;have hnc27:=NB853_858.out;have hnb28:=NB858_854.out;have hnc28:=NB854_858.out;have hcz29_0:w26.cell? ⟨gb858,0,none⟩=some (.string (⟨#[]⟩:ByteArray)):=(zAB BK858.out 0).trans rfl;have hcz29_1:w26.cell? ⟨gb858,1,none⟩=some (.slice none 0 0):=(zAB BK858.out 1).trans rfl;have hcz29_2:w26.cell? ⟨gb858,2,none⟩=some (.int .i64 0):=(zAB BK858.out 2).trans rfl;have hcz29_3:w26.cell? ⟨gb858,3,none⟩=some (.slice none 0 0):=(zAB BK858.out 3).trans rfl;have hfz29_0:=zAA BK858.out 0;have hfz29_1:=zAA BK858.out 1;have hfz29_2:=zAA BK858.out 2;have hfz29_3:=zAA BK858.out 3)|((with_reducible refine gate_store (t:=25) (p:=11) rfl ?_);(try (rw [drewN_self w26];generalize hq_:World.drewN w26 _=w26;have n0_:=aK_ (Kd.R_at hq_ HO857.out);have n1_:=aK_ (blk_at hq_ BK853.out);have n2_:=aK_ (blk_at hq_ BK854.out);have n3_:=aK_ (blk_at hq_ BK858.out);have n4_:=aK_ (below_at hq_ HB.out);clear hq_ HO857 BK853 BK854 BK858 HB;have HO857:=n0_;have BK853:=n1_;have BK854:=n2_;have BK858:=n3_;have HB:=n4_;clear n0_ n1_ n2_ n3_ n4_));refine store_event (t:=25) (p:=11) (v:=?vo_w30) (w1:=((((w26.setCell ⟨gb858,0,none⟩ (.string (⟨#[112]⟩:ByteArray))).setCell ⟨gb858,1,none⟩ (.slice Ao25 y855.length co25)).setCell ⟨gb858,2,none⟩ (.int .i64 0)).setCell ⟨gb858,3,none⟩ (.slice none 0 0))) ?hg ?ho ?hn ?hr ?_;(case ho=>rfl);(case hg=>rfl);(case hn=>rfl);(case hr=>first|(go_simp;done)|(go_simp;rfl));intro w30 hw;have n0_:zAY (Kd.R k47 47 w30 w.heap.size (fun _=>True) (.slice Ao25 y855.length co25) y855):=⟨(by rw [hw];exact (by refine aR_ ?_;exact Kd.R_mono (Kd.R_far (p:=⟨gb858,3,none⟩) (Kd.R_far (p:=⟨gb858,2,none⟩) (Kd.R_far (p:=⟨gb858,1,none⟩) (Kd.R_far (p:=⟨gb858,0,none⟩) (Kd.R_types HO857.out BK858.out (by decide)) (fun _ hk=>hk.2) (.string (⟨#[112]⟩:ByteArray))) (fun _ hk=>hk.2) (.slice Ao25 y855.length co25)) (fun _ hk=>hk.2) (.int .i64 0)) (fun _ hk=>hk.2) (.slice none 0 0)) (fun _ hk=>trivial)))⟩;have n1_:zAY (w30.heap[gb853]?=some (.cells #[.int .i64 x854000_6,.int .i64 (wrap64 (Int.tmod (IntKind.u64.wrap (a0)) 4)),.int .i64 0,.int .i64 0,.slice none 0 0,.int .i64 0] 33 (0,0))):=⟨(by rw [hw];exact (by refine aB_ ?_;refine zAV ?_ NB853_858.out _;refine aB_ ?_;refine zAV ?_ NB853_858.out _;refine aB_ ?_;refine zAV ?_ NB853_858.out _;refine aB_ ?_;refine zAV ?_ NB853_858.out _;refine aB_ ?_;exact BK853.out))⟩;have n2_:zAY (w30.heap[gb854]?=some (.cells #[.int .i64 x855000_16,.int .i64 (wrap64 (Int.tmod (IntKind.u64.wrap (a1)) 4)),.int .i64 0,.int .i64 0,.slice none 0 0,.int .i64 0] 33 (0,0))):=⟨(by rw [hw];exact (by refine aB_ ?_;refine zAV ?_ NB854_858.out _;refine aB_ ?_;refine zAV ?_ NB854_858.out _;refine aB_ ?_;refine zAV ?_ NB854_858.out _;refine aB_ ?_;refine zAV ?_ NB854_858.out _;refine aB_ ?_;exact BK854.out))⟩;have n3_:zAY (w30.heap[gb858]?=some (.cells #[.string (⟨#[112]⟩:ByteArray),.slice Ao25 y855.length co25,.int .i64 0,.slice none 0 0] 25 (0,0))):=⟨(by rw [hw];exact (by refine aB_ ?_;refine zAN (cs:=#[.string (⟨#[112]⟩:ByteArray),.slice Ao25 y855.length co25,.int .i64 0,.slice none 0 0]) ?_ 3 _ rfl;refine aB_ ?_;refine zAN (cs:=#[.string (⟨#[112]⟩:ByteArray),.slice Ao25 y855.length co25,.int .i64 0,.slice none 0 0]) ?_ 2 _ rfl;refine aB_ ?_;refine zAN (cs:=#[.string (⟨#[112]⟩:ByteArray),.slice none 0 0,.int .i64 0,.slice none 0 0]) ?_ 1 _ rfl;refine aB_ ?_;refine zAN (cs:=#[.string (⟨#[]⟩:ByteArray),.slice none 0 0,.int .i64 0,.slice none 0 0]) ?_ 0 _ rfl;refine aB_ ?_;exact BK858.out))⟩;have n4_:zAY (Below w.heap.size w w30):=⟨(by rw [hw];exact (aQ_ HB.out GE853.out GE854.out GE858.out))⟩;clear hw;clear HO857;clear BK853;clear BK854;clear BK858;clear HB;have HO857:=n0_;have BK853:=n1_;have BK854:=n2_;have BK858:=n3_;have HB:=n4_;clear n0_ n1_ n2_ n3_ n4_;have hnb31:=NB853_854.out;have hnc31:=NB854_853.out;have hcz32_0:w30.cell? ⟨gb853,0,none⟩=some (.int .i64 x854000_6):=(zAB BK853.out 0).trans rfl;have hcz32_1:w30.cell? ⟨gb853,1,none⟩=some (.int .i64 (wrap64 (Int.tmod (IntKind.u64.wrap (a0)) 4))):=(zAB BK853.out 1).trans rfl;have hcz32_2:w30.cell? ⟨gb853,2,none⟩=some (.int .i64 0):=(zAB BK853.out 2).trans rfl;have hcz32_3:w30.cell? ⟨gb853,3,none⟩=some (.int .i64 0):=(zAB BK853.out 3).trans rfl;have hcz32_4:w30.cell? ⟨gb853,4,none⟩=some (.slice none 0 0):=(zAB BK853.out 4).trans rfl;have hcz32_5:w30.cell? ⟨gb853,5,none⟩=some (.int .i64 0):=(zAB BK853.out 5).trans rfl;have hfz32_0:=zAA BK853.out 0;have hfz32_1:=zAA BK853.out 1;have hfz32_2:=zAA BK853.out 2;have hfz32_3:=zAA BK853.out 3;have hfz32_4:=zAA BK853.out 4;have hfz32_5:=zAA BK853.out 5;have hcz33_0:w30.cell? ⟨gb854,0,none⟩=some (.int .i64 x855000_16):=(zAB BK854.out 0).trans rfl;have hcz33_1:w30.cell? ⟨gb854,1,none⟩=some (.int .i64 (wrap64 (Int.tmod (IntKind.u64.wrap (a1)) 4))):=(zAB BK854.out 1).trans rfl;have hcz33_2:w30.cell? ⟨gb854,2,none⟩=some (.int .i64 0):=(zAB BK854.out 2).trans rfl;have hcz33_3:w30.cell? ⟨gb854,3,none⟩=some (.int .i64 0):=(zAB BK854.out 3).trans rfl;have hcz33_4:w30.cell? ⟨gb854,4,none⟩=some (.slice none 0 0):=(zAB BK854.out 4).trans rfl;have hcz33_5:w30.cell? ⟨gb854,5,none⟩=some (.int .i64 0):=(zAB BK854.out 5).trans rfl;have hfz33_0:=zAA BK854.out 0;have hfz33_1:=zAA BK854.out 1;have hfz33_2:=zAA BK854.out 2;have hfz33_3:=zAA BK854.out 3;have hfz33_4:=zAA BK854.out 4;have hfz33_5:=zAA BK854.out 5)|((with_reducible refine zAO (N:=41) rfl ?_);(try (refine zAP (by rfl) ?_;dsimp only));refine Kd.R_lit k45 _ 45 ?hg (N:=41) ?hd (xs:=([(⟨0,5⟩:S45)]:List (S45))) (inner:=[.int .i64 0,.int .i64 5]) (ok:=fun _=>True) (okp:=fun _=>True) ?hr ?hp (fun _ hk=>hk) trivial (Below.refl _ _) (Nat.le_refl _) (by simp) ?_;(case hd=>rfl);(case hg=>rfl);(case hr=>first|(go_simp;done)|(go_simp;rfl));(case hp=>exact (Reps.c2 (show Kd.M k45 _ _ _ (⟨0,5⟩:S45) [.int .i64 0,.int .i64 5] from (k45_mkM _ _ _ (⟨0,5⟩:S45) )) (Reps.none _ _)));intro v860 w34 ho35 hb hg_ hnew_;clear hg_ hnew_;(first|rw [← Ny859.out] at ho35|(simp only [Int.reduceToNat] at ho35;rw [← Ny859.out] at ho35));have n0_:=aK_ (Kd.R_below (aR_ HO857.out) hb);have n1_:=aK_ (Kd.R_lower ho35 (zAD (aQ_ HB.out GE853.out GE854.out GE858.out)));have n2_:=aK_ (zAI (g:=gb853) (o:=.cells #[.int .i64 x854000_6,.int .i64 (wrap64 (Int.tmod (IntKind.u64.wrap (a0)) 4)),.int .i64 0,.int .i64 0,.slice none 0 0,.int .i64 0] 33 (0,0)) (aB_ BK853.out) hb);have n3_:=aK_ (zAI (g:=gb854) (o:=.cells #[.int .i64 x855000_16,.int .i64 (wrap64 (Int.tmod (IntKind.u64.wrap (a1)) 4)),.int .i64 0,.int .i64 0,.slice none 0 0,.int .i64 0] 33 (0,0)) (aB_ BK854.out) hb);have n4_:=aK_ (zAI (g:=gb858) (o:=.cells #[.string (⟨#[112]⟩:ByteArray),.slice Ao25 y855.length co25,.int .i64 0,.slice none 0 0] 25 (0,0)) (aB_ BK858.out) hb);have n5_:=aK_ (zAH (aQ_ HB.out GE853.out GE854.out GE858.out) hb);clear HO857;clear BK853;clear BK854;clear BK858;clear HB;have HO857:=n0_;have HO861:=n1_;have BK853:=n2_;have BK854:=n3_;have BK858:=n4_;have HB:=n5_;clear n0_ n1_ n2_ n3_ n4_ n5_;clear hb ho35;obtain ⟨Ao36,co36,eo36⟩:=Kd.R_slice HO861.out;subst eo36)|((with_reducible refine zAO (N:=43) rfl ?_);(try (refine zAP (by rfl) ?_;dsimp only));refine Kd.N_lit k33 _ 33 ?hg (N':=43) ?hd (xs:=([(⟨x854000_6,(wrap64 (Int.tmod (IntKind.u64.wrap (a0)) 4)),0,0,([]:List (S45)),0⟩:S33),(⟨x855000_16,(wrap64 (Int.tmod (IntKind.u64.wrap (a1)) 4)),0,0,([]:List (S45)),0⟩:S33),(⟨6,0,0,0,([]:List (S45)),0⟩:S33),(⟨13,0,0,0,y859,0⟩:S33)]:List (S33))) (inner:=[.int .i64 x854000_6,.int .i64 (wrap64 (Int.tmod (IntKind.u64.wrap (a0)) 4)),.int .i64 0,.int .i64 0,.slice none 0 0,.int .i64 0,.int .i64 x855000_16,.int .i64 (wrap64 (Int.tmod (IntKind.u64.wrap (a1)) 4)),.int .i64 0,.int .i64 0,.slice none 0 0,.int .i64 0,.int .i64 6,.int .i64 0,.int .i64 0,.int .i64 0,.slice none 0 0,.int .i64 0,.int .i64 13,.int .i64 0,.int .i64 0,.int .i64 0,.slice Ao36 y859.length co36,.int .i64 0]) (ok:=(fun k_=>some k_≠(.slice Ao25 y855.length co25:Value).ownBlock∧k_≠gb853∧k_≠gb854∧k_≠gb858)) (okp:=(fun k_=>some k_≠(.slice Ao25 y855.length co25:Value).ownBlock∧k_≠gb853∧k_≠gb854∧k_≠gb858)) ?hr ?hp (fun _ hk=>hk) ((show ∀ k_,w34.heap.size≤k_→(fun k_=>some k_≠(.slice Ao25 y855.length co25:Value).ownBlock∧k_≠gb853∧k_≠gb854∧k_≠gb858) k_ from fun k_ hk=>⟨Kd.fresh' (Kd.R_lt (aR_ HO857.out)) k_ hk,Kd.freshB (g:=gb853) (o:=.cells #[.int .i64 x854000_6,.int .i64 (wrap64 (Int.tmod (IntKind.u64.wrap (a0)) 4)),.int .i64 0,.int .i64 0,.slice none 0 0,.int .i64 0] 33 (0,0)) (aB_ BK853.out) k_ hk,Kd.freshB (g:=gb854) (o:=.cells #[.int .i64 x855000_16,.int .i64 (wrap64 (Int.tmod (IntKind.u64.wrap (a1)) 4)),.int .i64 0,.int .i64 0,.slice none 0 0,.int .i64 0] 33 (0,0)) (aB_ BK854.out) k_ hk,Kd.freshB (g:=gb858) (o:=.cells #[.string (⟨#[112]⟩:ByteArray),.slice Ao25 y855.length co25,.int .i64 0,.slice none 0 0] 25 (0,0)) (aB_ BK858.out) k_ hk⟩) _ (Nat.le_refl _)) (Below.refl _ _) (Nat.le_refl _) (by simp) ?_;(case hd=>rfl);(case hg=>rfl);(case hr=>first|(go_simp;done)|(go_simp;rfl));(case hp=>exact (Reps.c6 (show Kd.FK k33 _ _ (⟨x854000_6,(wrap64 (Int.tmod (IntKind.u64.wrap (a0)) 4)),0,0,([]:List (S45)),0⟩:S33) [.int .i64 x854000_6,.int .i64 (wrap64 (Int.tmod (IntKind.u64.wrap (a0)) 4)),.int .i64 0,.int .i64 0,.slice none 0 0,.int .i64 0] from (k33_mkF _ _ (⟨x854000_6,(wrap64 (Int.tmod (IntKind.u64.wrap (a0)) 4)),0,0,([]:List (S45)),0⟩:S33) (Nat.le_refl _) (Kd.F_nil _ _ _))) (Reps.c6 (show Kd.FK k33 _ _ (⟨x855000_16,(wrap64 (Int.tmod (IntKind.u64.wrap (a1)) 4)),0,0,([]:List (S45)),0⟩:S33) [.int .i64 x855000_16,.int .i64 (wrap64 (Int.tmod (IntKind.u64.wrap (a1)) 4)),.int .i64 0,.int .i64 0,.slice none 0 0,.int .i64 0] from (k33_mkF _ _ (⟨x855000_16,(wrap64 (Int.tmod (IntKind.u64.wrap (a1)) 4)),0,0,([]:List (S45)),0⟩:S33) (Nat.le_refl _) (Kd.F_nil _ _ _))) (Reps.c6 (show Kd.FK k33 _ _ (⟨6,0,0,0,([]:List (S45)),0⟩:S33) [.int .i64 6,.int .i64 0,.int .i64 0,.int .i64 0,.slice none 0 0,.int .i64 0] from (k33_mkF _ _ (⟨6,0,0,0,([]:List (S45)),0⟩:S33) (Nat.le_refl _) (Kd.F_nil _ _ _))) (Reps.c6 (show Kd.FK k33 _ _ (⟨13,0,0,0,y859,0⟩:S33) [.int .i64 13,.int .i64 0,.int .i64 0,.int .i64 0,.slice Ao36 y859.length co36,.int .i64 0] from (k33_mkF _ _ (⟨13,0,0,0,y859,0⟩:S33) (Kd.R_reads' (Kd.R_mono (ok':=(fun k_=>some k_≠(.slice Ao25 y855.length co25:Value).ownBlock∧k_≠gb853∧k_≠gb854∧k_≠gb858)) (Kd.R_types (Kd.R_types (Kd.R_types (Kd.R_apart' (HO861.out) (Kd.R_typed HO857.out) (by decide)) BK853.out (by decide)) BK854.out (by decide)) BK858.out (by decide)) (fun k_ hk=>⟨hk.1.1.1.2,⟨hk.1.1.2,⟨hk.1.2,hk.2⟩⟩⟩))).2.1 (Kd.R_F (Kd.R_mono (ok':=(fun k_=>some k_≠(.slice Ao25 y855.length co25:Value).ownBlock∧k_≠gb853∧k_≠gb854∧k_≠gb858)) (Kd.R_types (Kd.R_types (Kd.R_types (Kd.R_apart' (HO861.out) (Kd.R_typed HO857.out) (by decide)) BK853.out (by decide)) BK854.out (by decide)) BK858.out (by decide)) (fun k_ hk=>⟨hk.1.1.1.2,⟨hk.1.1.2,⟨hk.1.2,hk.2⟩⟩⟩))))) (Reps.none _ _))))));intro v863 w37 ho38 hb hg_ hnew_;clear hg_ hnew_;(first|rw [← Ny862.out] at ho38|(simp only [Int.reduceToNat] at ho38;rw [← Ny862.out] at ho38));have n0_:=aK_ (Kd.R_below (aR_ HO857.out) hb);have n1_:=aK_ (Kd.N_lower ho38 (zAD (aQ_ HB.out GE853.out GE854.out GE858.out)));have n2_:=aK_ (zAI (g:=gb853) (o:=.cells #[.int .i64 x854000_6,.int .i64 (wrap64 (Int.tmod (IntKind.u64.wrap (a0)) 4)),.int .i64 0,.int .i64 0,.slice none 0 0,.int .i64 0] 33 (0,0)) (aB_ BK853.out) hb);have n3_:=aK_ (zAI (g:=gb854) (o:=.cells #[.int .i64 x855000_16,.int .i64 (wrap64 (Int.tmod (IntKind.u64.wrap (a1)) 4)),.int .i64 0,.int .i64 0,.slice none 0 0,.int .i64 0] 33 (0,0)) (aB_ BK854.out) hb);have n4_:=aK_ (zAI (g:=gb858) (o:=.cells #[.string (⟨#[112]⟩:ByteArray),.slice Ao25 y855.length co25,.int .i64 0,.slice none 0 0] 25 (0,0)) (aB_ BK858.out) hb);have n5_:=aK_ (zAH (aQ_ HB.out GE853.out GE854.out GE858.out) hb);clear HO857;clear BK853;clear BK854;clear BK858;clear HB;clear HO861;have HO857:=n0_;have HO864:=n1_;have BK853:=n2_;have BK854:=n3_;have BK858:=n4_;have HB:=n5_;clear n0_ n1_ n2_ n3_ n4_ n5_;clear hb ho38;obtain ⟨Ao39,co39,eo39⟩:=Kd.N_slice HO864.out;subst eo39;have hcz40_0:w37.cell? ⟨gb858,0,none⟩=some (.string (⟨#[112]⟩:ByteArray)):=(zAB BK858.out 0).trans rfl;have hcz40_1:w37.cell? ⟨gb858,1,none⟩=some (.slice Ao25 y855.length co25):=(zAB BK858.out 1).trans rfl;have hcz40_2:w37.cell? ⟨gb858,2,none⟩=some (.int .i64 0):=(zAB BK858.out 2).trans rfl;have hcz40_3:w37.cell? ⟨gb858,3,none⟩=some (.slice none 0 0):=(zAB BK858.out 3).trans rfl;have hfz40_0:=zAA BK858.out 0;have hfz40_1:=zAA BK858.out 1;have hfz40_2:=zAA BK858.out 2;have hfz40_3:=zAA BK858.out 3)|(go_at_call 33;(with_reducible refine (zAG.calls kj16 (⟨#[112]⟩:ByteArray) _ _ y855 0 _ _ y862 t865 t868 t869 _ ?side1 ?side2 ?side3 ?side4 ?side5 A21.out).mono ?_);(case side1=>(first|(with_reducible exact hG)|((repeat (with_reducible first|exact hG|apply GW.drewN|apply GW.drew|apply GW.alloc));done)|exact GW.below hG (aQ_ HB.out GE853.out GE854.out GE858.out)));(case side2=>refine (Kd.R_reads' (e:=47) (base:=w.heap.size) (ok:=fun k_=>True) (n:=y855.length) (c:=co25) ?_).2.2;exact (by refine aR_ ?_;exact (Kd.R_mono (Kd.R_far (p:=⟨gb858,3,none⟩) (Kd.R_types HO857.out BK858.out (by decide)) (fun _ hk=>hk.2) (.slice Ao39 y862.length co39)) (fun _ h_=>h_.1))));(case side3=>exact (Kd.R_reads' HO857.out).2.1);(case side4=>refine (Kd.N_reads' (e:=33) (base:=w.heap.size) (ok:=fun k_=>(some k_≠(.slice Ao25 y855.length co25:Value).ownBlock∧(k_≠gb853∧(k_≠gb854∧k_≠gb858)))) (n:=y862.length) (c:=co39) ?_).2.2;exact (by refine aN_ ?_;exact (Kd.N_mono (Kd.N_far (p:=⟨gb858,3,none⟩) (Kd.N_mono HO864.out (fun k_ hk=>(⟨hk,hk.2.2.2⟩:_∧k_≠gb858))) (fun _ hk=>hk.2) (.slice Ao39 y862.length co39)) (fun _ h_=>h_.1))));(case side5=>exact (Kd.N_reads' HO864.out).2.1);rintro e w41 ⟨v866,rfl,ho0,hb⟩;have n0_:=aK_ (Kd.R_below (by refine aR_ ?_;exact (Kd.R_mono (Kd.R_far (p:=⟨gb858,3,none⟩) (Kd.R_types HO857.out BK858.out (by decide)) (fun _ hk=>hk.2) (.slice Ao39 y862.length co39)) (fun _ h_=>h_.1))) hb);have n1_:=aK_ (Kd.N_elder' (by refine aN_ ?_;exact (Kd.N_mono (Kd.N_far (p:=⟨gb858,3,none⟩) (Kd.N_mono HO864.out (fun k_ hk=>(⟨hk,hk.2.2.2⟩:_∧k_≠gb858))) (fun _ hk=>hk.2) (.slice Ao39 y862.length co39)) (fun _ h_=>h_.1))) (Kd.R_base ho0) hb);have n2_:=aK_ (Kd.R_lower ho0 (zAD (aQ_ HB.out GE853.out GE854.out GE858.out)));have n3_:=aK_ (zAI (g:=gb853) (o:=.cells #[.int .i64 x854000_6,.int .i64 (wrap64 (Int.tmod (IntKind.u64.wrap (a0)) 4)),.int .i64 0,.int .i64 0,.slice none 0 0,.int .i64 0] 33 (0,0)) (by refine aB_ ?_;refine zAV ?_ NB853_858.out _;refine aB_ ?_;exact BK853.out) hb);have n4_:=aK_ (zAI (g:=gb854) (o:=.cells #[.int .i64 x855000_16,.int .i64 (wrap64 (Int.tmod (IntKind.u64.wrap (a1)) 4)),.int .i64 0,.int .i64 0,.slice none 0 0,.int .i64 0] 33 (0,0)) (by refine aB_ ?_;refine zAV ?_ NB854_858.out _;refine aB_ ?_;exact BK854.out) hb);have n5_:=aK_ (zAI (g:=gb858) (o:=.cells #[.string (⟨#[112]⟩:ByteArray),.slice Ao25 y855.length co25,.int .i64 0,.slice Ao39 y862.length co39] 25 (0,0)) (by refine aB_ ?_;refine zAN (cs:=#[.string (⟨#[112]⟩:ByteArray),.slice Ao25 y855.length co25,.int .i64 0,.slice none 0 0]) ?_ 3 _ rfl;refine aB_ ?_;exact BK858.out) hb);have n6_:=aK_ (zAH (aQ_ HB.out GE853.out GE854.out GE858.out) hb);clear HO857;clear HO864;clear BK853;clear BK854;clear BK858;clear HB;have HO857:=n0_;have HO864:=n1_;have HO867:=n2_;have BK853:=n3_;have BK854:=n4_;have BK858:=n5_;have HB:=n6_;clear n0_ n1_ n2_ n3_ n4_ n5_ n6_;(try clear hb);(try clear hb2);(try clear hk);(try clear hi);(try clear ho0)));go_upto_region 12 with (first|((with_reducible refine zAO (N:=35) rfl ?_);(try (refine zAP (by rfl) ?_;dsimp only));refine Kd.R_lit k47 _ 47 ?hg (N:=35) ?hd (xs:=([(⟨(⟨#[97]⟩:ByteArray),1⟩:S47),(⟨(⟨#[98]⟩:ByteArray),2⟩:S47),(⟨(⟨#[99]⟩:ByteArray),3⟩:S47),(⟨(⟨#[100]⟩:ByteArray),4⟩:S47)]:List (S47))) (inner:=[.string (⟨#[97]⟩:ByteArray),.int .i64 1,.string (⟨#[98]⟩:ByteArray),.int .i64 2,.string (⟨#[99]⟩:ByteArray),.int .i64 3,.string (⟨#[100]⟩:ByteArray),.int .i64 4]) (ok:=fun _=>True) (okp:=fun _=>True) ?hr ?hp (fun _ hk=>hk) trivial (Below.refl _ _) (Nat.le_refl _) (by simp) ?_;(case hd=>rfl);(case hg=>rfl);(case hr=>first|(go_simp;done)|(go_simp;rfl));(case hp=>exact (Reps.c2 (show Kd.M k47 _ _ _ (⟨(⟨#[97]⟩:ByteArray),1⟩:S47) [.string (⟨#[97]⟩:ByteArray),.int .i64 1] from (k47_mkM _ _ _ (⟨(⟨#[97]⟩:ByteArray),1⟩:S47) )) (Reps.c2 (show Kd.M k47 _ _ _ (⟨(⟨#[98]⟩:ByteArray),2⟩:S47) [.string (⟨#[98]⟩:ByteArray),.int .i64 2] from (k47_mkM _ _ _ (⟨(⟨#[98]⟩:ByteArray),2⟩:S47) )) (Reps.c2 (show Kd.M k47 _ _ _ (⟨(⟨#[99]⟩:ByteArray),3⟩:S47) [.string (⟨#[99]⟩:ByteArray),.int .i64 3] from (k47_mkM _ _ _ (⟨(⟨#[99]⟩:ByteArray),3⟩:S47) )) (Reps.c2 (show Kd.M k47 _ _ _ (⟨(⟨#[100]⟩:ByteArray),4⟩:S47) [.string (⟨#[100]⟩:ByteArray),.int .i64 4] from (k47_mkM _ _ _ (⟨(⟨#[100]⟩:ByteArray),4⟩:S47) )) (Reps.none _ _))))));intro v856 w23 ho24 hb hg_ hnew_;clear hg_ hnew_;(first|rw [← Ny855.out] at ho24|(simp only [Int.reduceToNat] at ho24;rw [← Ny855.out] at ho24));have n0_:=aK_ (Kd.R_lower ho24 (zAD (aJ_ HB.out GE853.out GE854.out)));have n1_:=aK_ (zAI (g:=gb853) (o:=.cells #[.int .i64 x854000_6,.int .i64 (wrap64 (Int.tmod (IntKind.u64.wrap (a0)) 4)),.int .i64 0,.int .i64 0,.slice none 0 0,.int .i64 0] 33 (0,0)) (aB_ BK853.out) hb);have n2_:=aK_ (zAI (g:=gb854) (o:=.cells #[.int .i64 x855000_16,.int .i64 (wrap64 (Int.tmod (IntKind.u64.wrap (a1)) 4)),.int .i64 0,.int .i64 0,.slice none 0 0,.int .i64 0] 33 (0,0)) (aB_ BK854.out) hb);have n3_:=aK_ (zAH (aJ_ HB.out GE853.out GE854.out) hb);clear BK853;clear BK854;clear HB;have HO857:=n0_;have BK853:=n1_;have BK854:=n2_;have HB:=n3_;clear n0_ n1_ n2_ n3_;clear hb ho24;obtain ⟨Ao25,co25,eo25⟩:=Kd.R_slice HO857.out;subst eo25)|((with_reducible refine zAO (N:=11) rfl ?_);(try (refine zAP (by rfl) ?_;dsimp only));refine zAR ?hg (N:=11) ?hd (cs:=#[.string (⟨#[]⟩:ByteArray),.slice none 0 0,.int .i64 0,.slice none 0 0]) (t:=25) ?hr ?_;(case hd=>rfl);(case hg=>rfl);(case hr=>first|(go_simp;done)|(go_simp;rfl));intro gb858 hg w26 hbox hb;have n0_:=aK_ (Kd.R_below (aR_ HO857.out) hb);have n1_:=aK_ (zAI (g:=gb853) (o:=.cells #[.int .i64 x854000_6,.int .i64 (wrap64 (Int.tmod (IntKind.u64.wrap (a0)) 4)),.int .i64 0,.int .i64 0,.slice none 0 0,.int .i64 0] 33 (0,0)) (aB_ BK853.out) hb);have n2_:=aK_ (zAI (g:=gb854) (o:=.cells #[.int .i64 x855000_16,.int .i64 (wrap64 (Int.tmod (IntKind.u64.wrap (a1)) 4)),.int .i64 0,.int .i64 0,.slice none 0 0,.int .i64 0] 33 (0,0)) (aB_ BK854.out) hb);have n3_:=aK_ (zAH (aJ_ HB.out GE853.out GE854.out) hb);have n4_:=aK_ (hbox);have n5_:=aK_ ((by rw [hg];exact (zAD (aJ_ HB.out GE853.out GE854.out)):w.heap.size≤gb858));have n6_:=aK_ ((by rw [hg];exact (zAD (aJ_ HB.out GE853.out GE854.out)):w.heap.size≤gb858));have n7_:=aK_ ((by rw [hg];exact Nat.ne_of_lt (blk_lt (g:=gb853) (o:=.cells #[.int .i64 x854000_6,.int .i64 (wrap64 (Int.tmod (IntKind.u64.wrap (a0)) 4)),.int .i64 0,.int .i64 0,.slice none 0 0,.int .i64 0] 33 (0,0)) (aB_ BK853.out)):gb853≠gb858));have n8_:=aK_ ((by rw [hg];exact Nat.ne_of_gt (blk_lt (g:=gb853) (o:=.cells #[.int .i64 x854000_6,.int .i64 (wrap64 (Int.tmod (IntKind.u64.wrap (a0)) 4)),.int .i64 0,.int .i64 0,.slice none 0 0,.int .i64 0] 33 (0,0)) (aB_ BK853.out)):gb858≠gb853));have n9_:=aK_ ((by rw [hg];exact Nat.ne_of_lt (blk_lt (g:=gb854) (o:=.cells #[.int .i64 x855000_16,.int .i64 (wrap64 (Int.tmod (IntKind.u64.wrap (a1)) 4)),.int .i64 0,.int .i64 0,.slice none 0 0,.int .i64 0] 33 (0,0)) (aB_ BK854.out)):gb854≠gb858));have n10_:=aK_ ((by rw [hg];exact Nat.ne_of_gt (blk_lt (g:=gb854) (o:=.cells #[.int .i64 x855000_16,.int .i64 (wrap64 (Int.tmod (IntKind.u64.wrap (a1)) 4)),.int .i64 0,.int .i64 0,.slice none 0 0,.int .i64 0] 33 (0,0)) (aB_ BK854.out)):gb858≠gb854));clear HO857;clear BK853;clear BK854;clear HB;have HO857:=n0_;have BK853:=n1_;have BK854:=n2_;have HB:=n3_;have BK858:=n4_;have GW858:=n5_;have GE858:=n6_;have NB853_858:=n7_;have NB858_853:=n8_;have NB854_858:=n9_;have NB858_854:=n10_;clear n0_ n1_ n2_ n3_ n4_ n5_ n6_ n7_ n8_ n9_ n10_;clear hb hbox hg;have hnb27:=NB858_853.out;have hnc27:=NB853_858.out;have hnb28:=NB858_854.out;have hnc28:=NB854_858.out;have hcz29_0:w26.cell? ⟨gb858,0,none⟩=some (.string (⟨#[]⟩:ByteArray)):=(zAB BK858.out 0).trans rfl;have hcz29_1:w26.cell? ⟨gb858,1,none⟩=some (.slice none 0 0):=(zAB BK858.out 1).trans rfl;have hcz29_2:w26.cell? ⟨gb858,2,none⟩=some (.int .i64 0):=(zAB BK858.out 2).trans rfl;have hcz29_3:w26.cell? ⟨gb858,3,none⟩=some (.slice none 0 0):=(zAB BK858.out 3).trans rfl;have hfz29_0:=zAA BK858.out 0;have hfz29_1:=zAA BK858.out 1;have hfz29_2:=zAA BK858.out 2;have hfz29_3:=zAA BK858.out 3)|((with_reducible refine gate_store (t:=25) (p:=11) rfl ?_);(try (rw [drewN_self w26];generalize hq_:World.drewN w26 _=w26;have n0_:=aK_ (Kd.R_at hq_ HO857.out);have n1_:=aK_ (blk_at hq_ BK853.out);have n2_:=aK_ (blk_at hq_ BK854.out);have n3_:=aK_ (blk_at hq_ BK858.out);have n4_:=aK_ (below_at hq_ HB.out);clear hq_ HO857 BK853 BK854 BK858 HB;have HO857:=n0_;have BK853:=n1_;have BK854:=n2_;have BK858:=n3_;have HB:=n4_;clear n0_ n1_ n2_ n3_ n4_));refine store_event (t:=25) (p:=11) (v:=?vo_w30) (w1:=((((w26.setCell ⟨gb858,0,none⟩ (.string (⟨#[112]⟩:ByteArray))).setCell ⟨gb858,1,none⟩ (.slice Ao25 y855.length co25)).setCell ⟨gb858,2,none⟩ (.int .i64 0)).setCell ⟨gb858,3,none⟩ (.slice none 0 0))) ?hg ?ho ?hn ?hr ?_;(case ho=>rfl);(case hg=>rfl);(case hn=>rfl);(case hr=>first|(go_simp;done)|(go_simp;rfl));intro w30 hw;have n0_:zAY (Kd.R k47 47 w30 w.heap.size (fun _=>True) (.slice Ao25 y855.length co25) y855):=⟨(by rw [hw];exact (by refine aR_ ?_;exact Kd.R_mono (Kd.R_far (p:=⟨gb858,3,none⟩) (Kd.R_far (p:=⟨gb858,2,none⟩) (Kd.R_far (p:=⟨gb858,1,none⟩) (Kd.R_far (p:=⟨gb858,0,none⟩) (Kd.R_types HO857.out BK858.out (by decide)) (fun _ hk=>hk.2) (.string (⟨#[112]⟩:ByteArray))) (fun _ hk=>hk.2) (.slice Ao25 y855.length co25)) (fun _ hk=>hk.2) (.int .i64 0)) (fun _ hk=>hk.2) (.slice none 0 0)) (fun _ hk=>trivial)))⟩;have n1_:zAY (w30.heap[gb853]?=some (.cells #[.int .i64 x854000_6,.int .i64 (wrap64 (Int.tmod (IntKind.u64.wrap (a0)) 4)),.int .i64 0,.int .i64 0,.slice none 0 0,.int .i64 0] 33 (0,0))):=⟨(by rw [hw];exact (by refine aB_ ?_;refine zAV ?_ NB853_858.out _;refine aB_ ?_;refine zAV ?_ NB853_858.out _;refine aB_ ?_;refine zAV ?_ NB853_858.out _;refine aB_ ?_;refine zAV ?_ NB853_858.out _;refine aB_ ?_;exact BK853.out))⟩;have n2_:zAY (w30.heap[gb854]?=some (.cells #[.int .i64 x855000_16,.int .i64 (wrap64 (Int.tmod (IntKind.u64.wrap (a1)) 4)),.int .i64 0,.int .i64 0,.slice none 0 0,.int .i64 0] 33 (0,0))):=⟨(by rw [hw];exact (by refine aB_ ?_;refine zAV ?_ NB854_858.out _;refine aB_ ?_;refine zAV ?_ NB854_858.out _;refine aB_ ?_;refine zAV ?_ NB854_858.out _;refine aB_ ?_;refine zAV ?_ NB854_858.out _;refine aB_ ?_;exact BK854.out))⟩;have n3_:zAY (w30.heap[gb858]?=some (.cells #[.string (⟨#[112]⟩:ByteArray),.slice Ao25 y855.length co25,.int .i64 0,.slice none 0 0] 25 (0,0))):=⟨(by rw [hw];exact (by refine aB_ ?_;refine zAN (cs:=#[.string (⟨#[112]⟩:ByteArray),.slice Ao25 y855.length co25,.int .i64 0,.slice none 0 0]) ?_ 3 _ rfl;refine aB_ ?_;refine zAN (cs:=#[.string (⟨#[112]⟩:ByteArray),.slice Ao25 y855.length co25,.int .i64 0,.slice none 0 0]) ?_ 2 _ rfl;refine aB_ ?_;refine zAN (cs:=#[.string (⟨#[112]⟩:ByteArray),.slice none 0 0,.int .i64 0,.slice none 0 0]) ?_ 1 _ rfl;refine aB_ ?_;refine zAN (cs:=#[.string (⟨#[]⟩:ByteArray),.slice none 0 0,.int .i64 0,.slice none 0 0]) ?_ 0 _ rfl;refine aB_ ?_;exact BK858.out))⟩;have n4_:zAY (Below w.heap.size w w30):=⟨(by rw [hw];exact (aQ_ HB.out GE853.out GE854.out GE858.out))⟩;clear hw;clear HO857;clear BK853;clear BK854;clear BK858;clear HB;have HO857:=n0_;have BK853:=n1_;have BK854:=n2_;have BK858:=n3_;have HB:=n4_;clear n0_ n1_ n2_ n3_ n4_;have hnb31:=NB853_854.out;have hnc31:=NB854_853.out;have hcz32_0:w30.cell? ⟨gb853,0,none⟩=some (.int .i64 x854000_6):=(zAB BK853.out 0).trans rfl;have hcz32_1:w30.cell? ⟨gb853,1,none⟩=some (.int .i64 (wrap64 (Int.tmod (IntKind.u64.wrap (a0)) 4))):=(zAB BK853.out 1).trans rfl;have hcz32_2:w30.cell? ⟨gb853,2,none⟩=some (.int .i64 0):=(zAB BK853.out 2).trans rfl;have hcz32_3:w30.cell? ⟨gb853,3,none⟩=some (.int .i64 0):=(zAB BK853.out 3).trans rfl;have hcz32_4:w30.cell? ⟨gb853,4,none⟩=some (.slice none 0 0):=(zAB BK853.out 4).trans rfl;have hcz32_5:w30.cell? ⟨gb853,5,none⟩=some (.int .i64 0):=(zAB BK853.out 5).trans rfl;have hfz32_0:=zAA BK853.out 0;have hfz32_1:=zAA BK853.out 1;have hfz32_2:=zAA BK853.out 2;have hfz32_3:=zAA BK853.out 3;have hfz32_4:=zAA BK853.out 4;have hfz32_5:=zAA BK853.out 5;have hcz33_0:w30.cell? ⟨gb854,0,none⟩=some (.int .i64 x855000_16):=(zAB BK854.out 0).trans rfl;have hcz33_1:w30.cell? ⟨gb854,1,none⟩=some (.int .i64 (wrap64 (Int.tmod (IntKind.u64.wrap (a1)) 4))):=(zAB BK854.out 1).trans rfl;have hcz33_2:w30.cell? ⟨gb854,2,none⟩=some (.int .i64 0):=(zAB BK854.out 2).trans rfl;have hcz33_3:w30.cell? ⟨gb854,3,none⟩=some (.int .i64 0):=(zAB BK854.out 3).trans rfl;have hcz33_4:w30.cell? ⟨gb854,4,none⟩=some (.slice none 0 0):=(zAB BK854.out 4).trans rfl;have hcz33_5:w30.cell? ⟨gb854,5,none⟩=some (.int .i64 0):=(zAB BK854.out 5).trans rfl;have hfz33_0:=zAA BK854.out 0;have hfz33_1:=zAA BK854.out 1;have hfz33_2:=zAA BK854.out 2;have hfz33_3:=zAA BK854.out 3;have hfz33_4:=zAA BK854.out 4;have hfz33_5:=zAA BK854.out 5)|((with_reducible refine zAO (N:=41) rfl ?_);(try (refine zAP (by rfl) ?_;dsimp only));refine Kd.R_lit k45 _ 45 ?hg (N:=41) ?hd (xs:=([(⟨0,5⟩:S45)]:List (S45))) (inner:=[.int .i64 0,.int .i64 5]) (ok:=fun _=>True) (okp:=fun _=>True) ?hr ?hp (fun _ hk=>hk) trivial (Below.refl _ _) (Nat.le_refl _) (by simp) ?_;(case hd=>rfl);(case hg=>rfl);(case hr=>first|(go_simp;done)|(go_simp;rfl));(case hp=>exact (Reps.c2 (show Kd.M k45 _ _ _ (⟨0,5⟩:S45) [.int .i64 0,.int .i64 5] from (k45_mkM _ _ _ (⟨0,5⟩:S45) )) (Reps.none _ _)));intro v860 w34 ho35 hb hg_ hnew_;clear hg_ hnew_;(first|rw [← Ny859.out] at ho35|(simp only [Int.reduceToNat] at ho35;rw [← Ny859.out] at ho35));have n0_:=aK_ (Kd.R_below (aR_ HO857.out) hb);have n1_:=aK_ (Kd.R_lower ho35 (zAD (aQ_ HB.out GE853.out GE854.out GE858.out)));have n2_:=aK_ (zAI (g:=gb853) (o:=.cells #[.int .i64 x854000_6,.int .i64 (wrap64 (Int.tmod (IntKind.u64.wrap (a0)) 4)),.int .i64 0,.int .i64 0,.slice none 0 0,.int .i64 0] 33 (0,0)) (aB_ BK853.out) hb);have n3_:=aK_ (zAI (g:=gb854) (o:=.cells #[.int .i64 x855000_16,.int .i64 (wrap64 (Int.tmod (IntKind.u64.wrap (a1)) 4)),.int .i64 0,.int .i64 0,.slice none 0 0,.int .i64 0] 33 (0,0)) (aB_ BK854.out) hb);have n4_:=aK_ (zAI (g:=gb858) (o:=.cells #[.string (⟨#[112]⟩:ByteArray),.slice Ao25 y855.length co25,.int .i64 0,.slice none 0 0] 25 (0,0)) (aB_ BK858.out) hb);have n5_:=aK_ (zAH (aQ_ HB.out GE853.out GE854.out GE858.out) hb);clear HO857;clear BK853;clear BK854;clear BK858;clear HB;have HO857:=n0_;have HO861:=n1_;have BK853:=n2_;have BK854:=n3_;have BK858:=n4_;have HB:=n5_;clear n0_ n1_ n2_ n3_ n4_ n5_;clear hb ho35;obtain ⟨Ao36,co36,eo36⟩:=Kd.R_slice HO861.out;subst eo36)|((with_reducible refine zAO (N:=43) rfl ?_);(try (refine zAP (by rfl) ?_;dsimp only));refine Kd.N_lit k33 _ 33 ?hg (N':=43) ?hd (xs:=([(⟨x854000_6,(wrap64 (Int.tmod (IntKind.u64.wrap (a0)) 4)),0,0,([]:List (S45)),0⟩:S33),(⟨x855000_16,(wrap64 (Int.tmod (IntKind.u64.wrap (a1)) 4)),0,0,([]:List (S45)),0⟩:S33),(⟨6,0,0,0,([]:List (S45)),0⟩:S33),(⟨13,0,0,0,y859,0⟩:S33)]:List (S33))) (inner:=[.int .i64 x854000_6,.int .i64 (wrap64 (Int.tmod (IntKind.u64.wrap (a0)) 4)),.int .i64 0,.int .i64 0,.slice none 0 0,.int .i64 0,.int .i64 x855000_16,.int .i64 (wrap64 (Int.tmod (IntKind.u64.wrap (a1)) 4)),.int .i64 0,.int .i64 0,.slice none 0 0,.int .i64 0,.int .i64 6,.int .i64 0,.int .i64 0,.int .i64 0,.slice none 0 0,.int .i64 0,.int .i64 13,.int .i64 0,.int .i64 0,.int .i64 0,.slice Ao36 y859.length co36,.int .i64 0]) (ok:=(fun k_=>some k_≠(.slice Ao25 y855.length co25:Value).ownBlock∧k_≠gb853∧k_≠gb854∧k_≠gb858)) (okp:=(fun k_=>some k_≠(.slice Ao25 y855.length co25:Value).ownBlock∧k_≠gb853∧k_≠gb854∧k_≠gb858)) ?hr ?hp (fun _ hk=>hk) ((show ∀ k_,w34.heap.size≤k_→(fun k_=>some k_≠(.slice Ao25 y855.length co25:Value).ownBlock∧k_≠gb853∧k_≠gb854∧k_≠gb858) k_ from fun k_ hk=>⟨Kd.fresh' (Kd.R_lt (aR_ HO857.out)) k_ hk,Kd.freshB (g:=gb853) (o:=.cells #[.int .i64 x854000_6,.int .i64 (wrap64 (Int.tmod (IntKind.u64.wrap (a0)) 4)),.int .i64 0,.int .i64 0,.slice none 0 0,.int .i64 0] 33 (0,0)) (aB_ BK853.out) k_ hk,Kd.freshB (g:=gb854) (o:=.cells #[.int .i64 x855000_16,.int .i64 (wrap64 (Int.tmod (IntKind.u64.wrap (a1)) 4)),.int .i64 0,.int .i64 0,.slice none 0 0,.int .i64 0] 33 (0,0)) (aB_ BK854.out) k_ hk,Kd.freshB (g:=gb858) (o:=.cells #[.string (⟨#[112]⟩:ByteArray),.slice Ao25 y855.length co25,.int .i64 0,.slice none 0 0] 25 (0,0)) (aB_ BK858.out) k_ hk⟩) _ (Nat.le_refl _)) (Below.refl _ _) (Nat.le_refl _) (by simp) ?_;(case hd=>rfl);(case hg=>rfl);(case hr=>first|(go_simp;done)|(go_simp;rfl));(case hp=>exact (Reps.c6 (show Kd.FK k33 _ _ (⟨x854000_6,(wrap64 (Int.tmod (IntKind.u64.wrap (a0)) 4)),0,0,([]:List (S45)),0⟩:S33) [.int .i64 x854000_6,.int .i64 (wrap64 (Int.tmod (IntKind.u64.wrap (a0)) 4)),.int .i64 0,.int .i64 0,.slice none 0 0,.int .i64 0] from (k33_mkF _ _ (⟨x854000_6,(wrap64 (Int.tmod (IntKind.u64.wrap (a0)) 4)),0,0,([]:List (S45)),0⟩:S33) (Nat.le_refl _) (Kd.F_nil _ _ _))) (Reps.c6 (show Kd.FK k33 _ _ (⟨x855000_16,(wrap64 (Int.tmod (IntKind.u64.wrap (a1)) 4)),0,0,([]:List (S45)),0⟩:S33) [.int .i64 x855000_16,.int .i64 (wrap64 (Int.tmod (IntKind.u64.wrap (a1)) 4)),.int .i64 0,.int .i64 0,.slice none 0 0,.int .i64 0] from (k33_mkF _ _ (⟨x855000_16,(wrap64 (Int.tmod (IntKind.u64.wrap (a1)) 4)),0,0,([]:List (S45)),0⟩:S33) (Nat.le_refl _) (Kd.F_nil _ _ _))) (Reps.c6 (show Kd.FK k33 _ _ (⟨6,0,0,0,([]:List (S45)),0⟩:S33) [.int .i64 6,.int .i64 0,.int .i64 0,.int .i64 0,.slice none 0 0,.int .i64 0] from (k33_mkF _ _ (⟨6,0,0,0,([]:List (S45)),0⟩:S33) (Nat.le_refl _) (Kd.F_nil _ _ _))) (Reps.c6 (show Kd.FK k33 _ _ (⟨13,0,0,0,y859,0⟩:S33) [.int .i64 13,.int .i64 0,.int .i64 0,.int .i64 0,.slice Ao36 y859.length co36,.int .i64 0] from (k33_mkF _ _ (⟨13,0,0,0,y859,0⟩:S33) (Kd.R_reads' (Kd.R_mono (ok':=(fun k_=>some k_≠(.slice Ao25 y855.length co25:Value).ownBlock∧k_≠gb853∧k_≠gb854∧k_≠gb858)) (Kd.R_types (Kd.R_types (Kd.R_types (Kd.R_apart' (HO861.out) (Kd.R_typed HO857.out) (by decide)) BK853.out (by decide)) BK854.out (by decide)) BK858.out (by decide)) (fun k_ hk=>⟨hk.1.1.1.2,⟨hk.1.1.2,⟨hk.1.2,hk.2⟩⟩⟩))).2.1 (Kd.R_F (Kd.R_mono (ok':=(fun k_=>some k_≠(.slice Ao25 y855.length co25:Value).ownBlock∧k_≠gb853∧k_≠gb854∧k_≠gb858)) (Kd.R_types (Kd.R_types (Kd.R_types (Kd.R_apart' (HO861.out) (Kd.R_typed HO857.out) (by decide)) BK853.out (by decide)) BK854.out (by decide)) BK858.out (by decide)) (fun k_ hk=>⟨hk.1.1.1.2,⟨hk.1.1.2,⟨hk.1.2,hk.2⟩⟩⟩))))) (Reps.none _ _))))));intro v863 w37 ho38 hb hg_ hnew_;clear hg_ hnew_;(first|rw [← Ny862.out] at ho38|(simp only [Int.reduceToNat] at ho38;rw [← Ny862.out] at ho38));have n0_:=aK_ (Kd.R_below (aR_ HO857.out) hb);have n1_:=aK_ (Kd.N_lower ho38 (zAD (aQ_ HB.out GE853.out GE854.out GE858.out)));have n2_:=aK_ (zAI (g:=gb853) (o:=.cells #[.int .i64 x854000_6,.int .i64 (wrap64 (Int.tmod (IntKind.u64.wrap (a0)) 4)),.int .i64 0,.int .i64 0,.slice none 0 0,.int .i64 0] 33 (0,0)) (aB_ BK853.out) hb);have n3_:=aK_ (zAI (g:=gb854) (o:=.cells #[.int .i64 x855000_16,.int .i64 (wrap64 (Int.tmod (IntKind.u64.wrap (a1)) 4)),.int .i64 0,.int .i64 0,.slice none 0 0,.int .i64 0] 33 (0,0)) (aB_ BK854.out) hb);have n4_:=aK_ (zAI (g:=gb858) (o:=.cells #[.string (⟨#[112]⟩:ByteArray),.slice Ao25 y855.length co25,.int .i64 0,.slice none 0 0] 25 (0,0)) (aB_ BK858.out) hb);have n5_:=aK_ (zAH (aQ_ HB.out GE853.out GE854.out GE858.out) hb);clear HO857;clear BK853;clear BK854;clear BK858;clear HB;clear HO861;have HO857:=n0_;have HO864:=n1_;have BK853:=n2_;have BK854:=n3_;have BK858:=n4_;have HB:=n5_;clear n0_ n1_ n2_ n3_ n4_ n5_;clear hb ho38;obtain ⟨Ao39,co39,eo39⟩:=Kd.N_slice HO864.out;subst eo39;have hcz40_0:w37.cell? ⟨gb858,0,none⟩=some (.string (⟨#[112]⟩:ByteArray)):=(zAB BK858.out 0).trans rfl;have hcz40_1:w37.cell? ⟨gb858,1,none⟩=some (.slice Ao25 y855.length co25):=(zAB BK858.out 1).trans rfl;have hcz40_2:w37.cell? ⟨gb858,2,none⟩=some (.int .i64 0):=(zAB BK858.out 2).trans rfl;have hcz40_3:w37.cell? ⟨gb858,3,none⟩=some (.slice none 0 0):=(zAB BK858.out 3).trans rfl;have hfz40_0:=zAA BK858.out 0;have hfz40_1:=zAA BK858.out 1;have hfz40_2:=zAA BK858.out 2;have hfz40_3:=zAA BK858.out 3)|(go_at_call 33;(with_reducible refine (zAG.calls kj16 (⟨#[112]⟩:ByteArray) _ _ y855 0 _ _ y862 t865 t868 t869 _ ?side1 ?side2 ?side3 ?side4 ?side5 A21.out).mono ?_);(case side1=>(first|(with_reducible exact hG)|((repeat (with_reducible first|exact hG|apply GW.drewN|apply GW.drew|apply GW.alloc));done)|exact GW.below hG (aQ_ HB.out GE853.out GE854.out GE858.out)));(case side2=>refine (Kd.R_reads' (e:=47) (base:=w.heap.size) (ok:=fun k_=>True) (n:=y855.length) (c:=co25) ?_).2.2;exact (by refine aR_ ?_;exact (Kd.R_mono (Kd.R_far (p:=⟨gb858,3,none⟩) (Kd.R_types HO857.out BK858.out (by decide)) (fun _ hk=>hk.2) (.slice Ao39 y862.length co39)) (fun _ h_=>h_.1))));(case side3=>exact (Kd.R_reads' HO857.out).2.1);(case side4=>refine (Kd.N_reads' (e:=33) (base:=w.heap.size) (ok:=fun k_=>(some k_≠(.slice Ao25 y855.length co25:Value).ownBlock∧(k_≠gb853∧(k_≠gb854∧k_≠gb858)))) (n:=y862.length) (c:=co39) ?_).2.2;exact (by refine aN_ ?_;exact (Kd.N_mono (Kd.N_far (p:=⟨gb858,3,none⟩) (Kd.N_mono HO864.out (fun k_ hk=>(⟨hk,hk.2.2.2⟩:_∧k_≠gb858))) (fun _ hk=>hk.2) (.slice Ao39 y862.length co39)) (fun _ h_=>h_.1))));(case side5=>exact (Kd.N_reads' HO864.out).2.1);rintro e w41 ⟨v866,rfl,ho0,hb⟩;have n0_:=aK_ (Kd.R_below (by refine aR_ ?_;exact (Kd.R_mono (Kd.R_far (p:=⟨gb858,3,none⟩) (Kd.R_types HO857.out BK858.out (by decide)) (fun _ hk=>hk.2) (.slice Ao39 y862.length co39)) (fun _ h_=>h_.1))) hb);have n1_:=aK_ (Kd.N_elder' (by refine aN_ ?_;exact (Kd.N_mono (Kd.N_far (p:=⟨gb858,3,none⟩) (Kd.N_mono HO864.out (fun k_ hk=>(⟨hk,hk.2.2.2⟩:_∧k_≠gb858))) (fun _ hk=>hk.2) (.slice Ao39 y862.length co39)) (fun _ h_=>h_.1))) (Kd.R_base ho0) hb);have n2_:=aK_ (Kd.R_lower ho0 (zAD (aQ_ HB.out GE853.out GE854.out GE858.out)));have n3_:=aK_ (zAI (g:=gb853) (o:=.cells #[.int .i64 x854000_6,.int .i64 (wrap64 (Int.tmod (IntKind.u64.wrap (a0)) 4)),.int .i64 0,.int .i64 0,.slice none 0 0,.int .i64 0] 33 (0,0)) (by refine aB_ ?_;refine zAV ?_ NB853_858.out _;refine aB_ ?_;exact BK853.out) hb);have n4_:=aK_ (zAI (g:=gb854) (o:=.cells #[.int .i64 x855000_16,.int .i64 (wrap64 (Int.tmod (IntKind.u64.wrap (a1)) 4)),.int .i64 0,.int .i64 0,.slice none 0 0,.int .i64 0] 33 (0,0)) (by refine aB_ ?_;refine zAV ?_ NB854_858.out _;refine aB_ ?_;exact BK854.out) hb);have n5_:=aK_ (zAI (g:=gb858) (o:=.cells #[.string (⟨#[112]⟩:ByteArray),.slice Ao25 y855.length co25,.int .i64 0,.slice Ao39 y862.length co39] 25 (0,0)) (by refine aB_ ?_;refine zAN (cs:=#[.string (⟨#[112]⟩:ByteArray),.slice Ao25 y855.length co25,.int .i64 0,.slice none 0 0]) ?_ 3 _ rfl;refine aB_ ?_;exact BK858.out) hb);have n6_:=aK_ (zAH (aQ_ HB.out GE853.out GE854.out GE858.out) hb);clear HO857;clear HO864;clear BK853;clear BK854;clear BK858;clear HB;have HO857:=n0_;have HO864:=n1_;have HO867:=n2_;have BK853:=n3_;have BK854:=n4_;have BK858:=n5_;have HB:=n6_;clear n0_ n1_ n2_ n3_ n4_ n5_ n6_;(try clear hb);(try clear hb2);(try clear hk);(try clear hi);(try clear ho0))))
 (try simp only [Act.put,List.setIfInBounds_toArray,List.set_cons_zero,List.set_cons_succ])
 go_cut [62] (fun v62 wc=>∃ (kq:Nat) (x62_21:Bool),v62 = .bool x62_21∧zAY (zAF.j2 kq t865 t868 t869 x62_21 x854000_6 (wrap64 (Int.tmod (IntKind.u64.wrap (a0)) 4)) 0 0 0 (⟨#[112]⟩:ByteArray) y855 0 y862=some r)∧zAY (kq≤kj16)∧zAY (Kd.R (Kd.int .i64) 3 wc w.heap.size (fun _=>True) v866 t865)∧zAY (Kd.R k47 47 wc w.heap.size (fun _=>True) (.slice Ao25 y855.length co25) y855)∧zAY (Kd.N k33 33 wc w.heap.size (fun k_=>some k_≠(v866:Value).ownBlock∧some k_≠((.slice Ao25 y855.length co25):Value).ownBlock∧k_≠gb853∧k_≠gb854∧k_≠gb858) (.slice Ao39 y862.length co39) y862)∧zAY (wc.heap[gb853]?=some (.cells #[.int .i64 x854000_6,.int .i64 (wrap64 (Int.tmod (IntKind.u64.wrap (a0)) 4)),.int .i64 0,.int .i64 0,(.slice none 0 0),.int .i64 0] 33 (0,0)))∧zAY (wc.heap[gb854]?=some (.cells #[.int .i64 x855000_16,.int .i64 (wrap64 (Int.tmod (IntKind.u64.wrap (a1)) 4)),.int .i64 0,.int .i64 0,(.slice none 0 0),.int .i64 0] 33 (0,0)))∧zAY (wc.heap[gb858]?=some (.cells #[.string (⟨#[112]⟩:ByteArray),(.slice Ao25 y855.length co25),.int .i64 0,(.slice Ao39 y862.length co39)] 25 (0,0)))∧zAY (Below w.heap.size w wc))
 case first =>
  have H:=HC22.out
  clear HC22
  by_cases c42:x854000_6=x855000_16
  rotate_left
  ·rw [if_neg c42] at H
   have c42b0:(x854000_6 == x855000_16)=false:=beq_eq_false_iff_ne.mpr c42
   have c42b1:(x854000_6 != x855000_16)=true:=bne_iff_ne.mpr c42
   (first|rw [c42b0]|(simp only [i64_w,i32_w];rw [c42b0])|skip)
   have H':=aK_ H
   clear H
   have hnb48:=NB853_854.out
   have hnc48:=NB854_853.out
   have hnb49:=NB853_858.out
   have hnc49:=NB858_853.out
   have hcz50_0:w41.cell? ⟨gb853,0,none⟩=some (.int .i64 x854000_6):=(zAB BK853.out 0).trans rfl
   have hcz50_1:w41.cell? ⟨gb853,1,none⟩=some (.int .i64 (wrap64 (Int.tmod (IntKind.u64.wrap (a0)) 4))):=(zAB BK853.out 1).trans rfl
   have hcz50_2:w41.cell? ⟨gb853,2,none⟩=some (.int .i64 0):=(zAB BK853.out 2).trans rfl
   have hcz50_3:w41.cell? ⟨gb853,3,none⟩=some (.int .i64 0):=(zAB BK853.out 3).trans rfl
   have hcz50_4:w41.cell? ⟨gb853,4,none⟩=some (.slice none 0 0):=(zAB BK853.out 4).trans rfl
   have hcz50_5:w41.cell? ⟨gb853,5,none⟩=some (.int .i64 0):=(zAB BK853.out 5).trans rfl
   have hfz50_0:=zAA BK853.out 0
   have hfz50_1:=zAA BK853.out 1
   have hfz50_2:=zAA BK853.out 2
   have hfz50_3:=zAA BK853.out 3
   have hfz50_4:=zAA BK853.out 4
   have hfz50_5:=zAA BK853.out 5
   have hnb51:=NB854_858.out
   have hnc51:=NB858_854.out
   have hcz52_0:w41.cell? ⟨gb854,0,none⟩=some (.int .i64 x855000_16):=(zAB BK854.out 0).trans rfl
   have hcz52_1:w41.cell? ⟨gb854,1,none⟩=some (.int .i64 (wrap64 (Int.tmod (IntKind.u64.wrap (a1)) 4))):=(zAB BK854.out 1).trans rfl
   have hcz52_2:w41.cell? ⟨gb854,2,none⟩=some (.int .i64 0):=(zAB BK854.out 2).trans rfl
   have hcz52_3:w41.cell? ⟨gb854,3,none⟩=some (.int .i64 0):=(zAB BK854.out 3).trans rfl
   have hcz52_4:w41.cell? ⟨gb854,4,none⟩=some (.slice none 0 0):=(zAB BK854.out 4).trans rfl
   have hcz52_5:w41.cell? ⟨gb854,5,none⟩=some (.int .i64 0):=(zAB BK854.out 5).trans rfl
   have hfz52_0:=zAA BK854.out 0
   have hfz52_1:=zAA BK854.out 1
   have hfz52_2:=zAA BK854.out 2
   have hfz52_3:=zAA BK854.out 3
   have hfz52_4:=zAA BK854.out 4
   have hfz52_5:=zAA BK854.out 5
   go_wp2
   repeat (go_quiet (fail);try go_wp2)
   go_meet
   case rel=>exact ⟨_,(true),aS2_,H',⟨by have:=HJ6.out;have:=HJ16.out;first|omega|exact Nat.le_refl _⟩,⟨aR_ HO867.out⟩,⟨aR_ HO857.out⟩,⟨by refine aN_ ?_;exact Kd.N_mono HO864.out (fun _ hk=>⟨hk.2,⟨hk.1.1,⟨hk.1.2.1,⟨hk.1.2.2.1,hk.1.2.2.2⟩⟩⟩⟩)⟩,⟨aB_ BK853.out⟩,⟨aB_ BK854.out⟩,⟨aB_ BK858.out⟩,⟨aQ_ HB.out GE853.out GE854.out GE858.out⟩⟩
  rw [if_pos c42] at H
  have c42b0:(x854000_6 == x855000_16)=true:=beq_iff_eq.mpr c42
  have c42b1:(x854000_6 != x855000_16)=false:=bne_eq_false_iff_eq.mpr c42
  clear c42
  (first|rw [c42b0]|(simp only [i64_w,i32_w];rw [c42b0])|skip)
  have H':=aK_ H
  clear H
  have hnb43:=NB853_854.out
  have hnc43:=NB854_853.out
  have hnb44:=NB853_858.out
  have hnc44:=NB858_853.out
  have hcz45_0:w41.cell? ⟨gb853,0,none⟩=some (.int .i64 x854000_6):=(zAB BK853.out 0).trans rfl
  have hcz45_1:w41.cell? ⟨gb853,1,none⟩=some (.int .i64 (wrap64 (Int.tmod (IntKind.u64.wrap (a0)) 4))):=(zAB BK853.out 1).trans rfl
  have hcz45_2:w41.cell? ⟨gb853,2,none⟩=some (.int .i64 0):=(zAB BK853.out 2).trans rfl
  have hcz45_3:w41.cell? ⟨gb853,3,none⟩=some (.int .i64 0):=(zAB BK853.out 3).trans rfl
  have hcz45_4:w41.cell? ⟨gb853,4,none⟩=some (.slice none 0 0):=(zAB BK853.out 4).trans rfl
  have hcz45_5:w41.cell? ⟨gb853,5,none⟩=some (.int .i64 0):=(zAB BK853.out 5).trans rfl
  have hfz45_0:=zAA BK853.out 0
  have hfz45_1:=zAA BK853.out 1
  have hfz45_2:=zAA BK853.out 2
  have hfz45_3:=zAA BK853.out 3
  have hfz45_4:=zAA BK853.out 4
  have hfz45_5:=zAA BK853.out 5
  have hnb46:=NB854_858.out
  have hnc46:=NB858_854.out
  have hcz47_0:w41.cell? ⟨gb854,0,none⟩=some (.int .i64 x855000_16):=(zAB BK854.out 0).trans rfl
  have hcz47_1:w41.cell? ⟨gb854,1,none⟩=some (.int .i64 (wrap64 (Int.tmod (IntKind.u64.wrap (a1)) 4))):=(zAB BK854.out 1).trans rfl
  have hcz47_2:w41.cell? ⟨gb854,2,none⟩=some (.int .i64 0):=(zAB BK854.out 2).trans rfl
  have hcz47_3:w41.cell? ⟨gb854,3,none⟩=some (.int .i64 0):=(zAB BK854.out 3).trans rfl
  have hcz47_4:w41.cell? ⟨gb854,4,none⟩=some (.slice none 0 0):=(zAB BK854.out 4).trans rfl
  have hcz47_5:w41.cell? ⟨gb854,5,none⟩=some (.int .i64 0):=(zAB BK854.out 5).trans rfl
  have hfz47_0:=zAA BK854.out 0
  have hfz47_1:=zAA BK854.out 1
  have hfz47_2:=zAA BK854.out 2
  have hfz47_3:=zAA BK854.out 3
  have hfz47_4:=zAA BK854.out 4
  have hfz47_5:=zAA BK854.out 5
  go_wp2
  repeat (go_quiet (fail);try go_wp2)
  go_meet
  case rel=>exact ⟨_,(((wrap64 (Int.tmod (IntKind.u64.wrap (a0)) 4)) != (wrap64 (Int.tmod (IntKind.u64.wrap (a1)) 4)))),aS2_,H',⟨by have:=HJ6.out;have:=HJ16.out;first|omega|exact Nat.le_refl _⟩,⟨aR_ HO867.out⟩,⟨aR_ HO857.out⟩,⟨by refine aN_ ?_;exact Kd.N_mono HO864.out (fun _ hk=>⟨hk.2,⟨hk.1.1,⟨hk.1.2.1,⟨hk.1.2.2.1,hk.1.2.2.2⟩⟩⟩⟩)⟩,⟨aB_ BK853.out⟩,⟨aB_ BK854.out⟩,⟨aB_ BK858.out⟩,⟨aQ_ HB.out GE853.out GE854.out GE858.out⟩⟩
 clear HC22
 try clear c1
 try clear c2
 try clear p2
 try clear c3
 try clear c4
 try clear c5
 try clear c6
 try clear p6
 try clear c12
 try clear c13
 try clear c14
 try clear c15
 try clear c18
 try clear c19
 try clear c27
 try clear c28
 try clear c31
 try clear c42
 try clear c42b0
 try clear c42b1
 try clear c43
 try clear c44
 try clear c46
 try clear c48
 try clear c49
 try clear c51
 try clear hcz10_0
 try clear hcz10_1
 try clear hcz10_2
 try clear hcz10_3
 try clear hcz10_4
 try clear hcz10_5
 try clear hcz13_0
 try clear hcz13_1
 try clear hcz13_2
 try clear hcz13_3
 try clear hcz13_4
 try clear hcz13_5
 try clear hcz16_0
 try clear hcz16_1
 try clear hcz16_2
 try clear hcz16_3
 try clear hcz16_4
 try clear hcz16_5
 try clear hcz20_0
 try clear hcz20_1
 try clear hcz20_2
 try clear hcz20_3
 try clear hcz20_4
 try clear hcz20_5
 try clear hcz29_0
 try clear hcz29_1
 try clear hcz29_2
 try clear hcz29_3
 try clear hcz32_0
 try clear hcz32_1
 try clear hcz32_2
 try clear hcz32_3
 try clear hcz32_4
 try clear hcz32_5
 try clear hcz33_0
 try clear hcz33_1
 try clear hcz33_2
 try clear hcz33_3
 try clear hcz33_4
 try clear hcz33_5
 try clear hcz40_0
 try clear hcz40_1
 try clear hcz40_2
 try clear hcz40_3
 try clear hcz45_0
 try clear hcz45_1
 try clear hcz45_2
 try clear hcz45_3
 try clear hcz45_4
 try clear hcz45_5
 try clear hcz47_0
 try clear hcz47_1
 try clear hcz47_2
 try clear hcz47_3
 try clear hcz47_4
 try clear hcz47_5
 try clear hcz50_0
 try clear hcz50_1
 try clear hcz50_2
 try clear hcz50_3
 try clear hcz50_4
 try clear hcz50_5
 try clear hcz52_0
 try clear hcz52_1
 try clear hcz52_2
 try clear hcz52_3
 try clear hcz52_4
 try clear hcz52_5
 try clear hfz10_0
 try clear hfz10_1
 try clear hfz10_2
 try clear hfz10_3
 try clear hfz10_4
 try clear hfz10_5
 try clear hfz13_0
 try clear hfz13_1
 try clear hfz13_2
 try clear hfz13_3
 try clear hfz13_4
 try clear hfz13_5
 try clear hfz16_0
 try clear hfz16_1
 try clear hfz16_2
 try clear hfz16_3
 try clear hfz16_4
 try clear hfz16_5
 try clear hfz20_0
 try clear hfz20_1
 try clear hfz20_2
 try clear hfz20_3
 try clear hfz20_4
 try clear hfz20_5
 try clear hfz29_0
 try clear hfz29_1
 try clear hfz29_2
 try clear hfz29_3
 try clear hfz32_0
 try clear hfz32_1
 try clear hfz32_2
 try clear hfz32_3
 try clear hfz32_4
 try clear hfz32_5
 try clear hfz33_0
 try clear hfz33_1
 try clear hfz33_2
 try clear hfz33_3
 try clear hfz33_4
 try clear hfz33_5
 try clear hfz40_0
 try clear hfz40_1
 try clear hfz40_2
 try clear hfz40_3
 try clear hfz45_0
 try clear hfz45_1
 try clear hfz45_2
 try clear hfz45_3
 try clear hfz45_4
 try clear hfz45_5
 try clear hfz47_0
 try clear hfz47_1
 try clear hfz47_2
 try clear hfz47_3
 try clear hfz47_4
 try clear hfz47_5
 try clear hfz50_0
 try clear hfz50_1
 try clear hfz50_2
 try clear hfz50_3
 try clear hfz50_4
 try clear hfz50_5
 try clear hfz52_0
 try clear hfz52_1
 try clear hfz52_2
 try clear hfz52_3
 try clear hfz52_4
 try clear hfz52_5
 try clear p2
 try clear p6
 obtain ⟨kq,x62_21,rfl,HA,HJ21,HO_12,HO_859001,HO_859003,BK853,BK854,BK858,HB⟩:=hcut
 cases kq with
 |zero=>exact absurd HA.out (by simp [zAF.j2])
 |succ kj21=>?_
 have H:=HA.out
 clear HA
 simp only [zAF.j2] at H
 by_cases c53:x62_21=true
 ·subst c53
  have H1:(if t869=80 then (if t868=2 then ((zAG.f kj21 (⟨#[112]⟩:ByteArray) y855 0 (([(⟨x854000_6,(wrap64 (Int.tmod (IntKind.u64.wrap (a0)) 4)),0,0,([]:List (S45)),0⟩:S33),(⟨2,1,0,0,([]:List (S45)),0⟩:S33),(⟨6,0,0,0,([]:List (S45)),0⟩:S33)]:List (S33)))).bind fun bt873=>(if bt873.2.2=80 then (some (bt873.2.1 == 2)) else (some false))) else (some false)) else (some false))=some r:=by rw [if_pos rfl] at H;exact H
  clear H
  have H:=H1
  clear H1
  by_cases c54:t869=80
  rotate_left
  ·rw [if_neg c54] at H
   have c54b0:(t869 == 80)=false:=beq_eq_false_iff_ne.mpr c54
   have c54b1:(t869 != 80)=true:=bne_iff_ne.mpr c54
   obtain rfl:=Option.some.inj H
   go_wp2
   repeat (go_quiet (fail);try go_wp2)
   go_ret
   exact ⟨by first|rfl|(simp [zAK,zAL] <;> rfl)|(simp [*,zAK,zAL] <;> rfl),aQ_ HB.out GE853.out GE854.out GE858.out⟩
  rw [if_pos c54] at H
  have c54b0:(t869 == 80)=true:=beq_iff_eq.mpr c54
  have c54b1:(t869 != 80)=false:=bne_eq_false_iff_eq.mpr c54
  clear c54
  by_cases c55:t868=2
  rotate_left
  ·rw [if_neg c55] at H
   have c55b0:(t868 == 2)=false:=beq_eq_false_iff_ne.mpr c55
   have c55b1:(t868 != 2)=true:=bne_iff_ne.mpr c55
   obtain rfl:=Option.some.inj H
   go_wp2
   repeat (go_quiet (fail);try go_wp2)
   go_ret
   exact ⟨by first|rfl|(simp [zAK,zAL] <;> rfl)|(simp [*,zAK,zAL] <;> rfl),aQ_ HB.out GE853.out GE854.out GE858.out⟩
  rw [if_pos c55] at H
  have c55b0:(t868 == 2)=true:=beq_iff_eq.mpr c55
  have c55b1:(t868 != 2)=false:=bne_eq_false_iff_eq.mpr c55
  clear c55
  obtain ⟨y870,hy870⟩:∃ y_:List (S33),y_=(([(⟨x854000_6,(wrap64 (Int.tmod (IntKind.u64.wrap (a0)) 4)),0,0,([]:List (S45)),0⟩:S33),(⟨2,1,0,0,([]:List (S45)),0⟩:S33),(⟨6,0,0,0,([]:List (S45)),0⟩:S33)]:List (S33))):=⟨_,rfl⟩
  replace H:((zAG.f kj21 (⟨#[112]⟩:ByteArray) y855 0 y870).bind fun bt873=>(if bt873.2.2=80 then (some (bt873.2.1 == 2)) else (some false)))=some r:=by first|(rw [hy870];with_reducible exact H)|(have H2_:=(Option.bind_some _ _).symm.trans H;rw [hy870];with_reducible exact H2_)|(have H2_:=(Option.bind_some _ _).symm.trans H;with_reducible exact H2_)|with_reducible exact H|(rw [hy870];exact H)|exact H
  have Ny870:=aK_ hy870
  clear hy870
  replace H:=Option.bind_eq_some_iff.mp H
  obtain ⟨⟨t873,t876,t877⟩,A560,H⟩:=H
  replace H:(if t877=80 then (some (t876 == 2)) else (some false))=some r:=H
  have A56:=aK_ A560
  clear A560
  by_cases c57:t877=80
  rotate_left
  ·rw [if_neg c57] at H
   have c57b0:(t877 == 80)=false:=beq_eq_false_iff_ne.mpr c57
   have c57b1:(t877 != 80)=true:=bne_iff_ne.mpr c57
   obtain rfl:=Option.some.inj H
   have hnb67:=NB853_854.out
   have hnc67:=NB854_853.out
   have hnb68:=NB853_858.out
   have hnc68:=NB858_853.out
   have hcz69_0:wc.cell? ⟨gb853,0,none⟩=some (.int .i64 x854000_6):=(zAB BK853.out 0).trans rfl
   have hcz69_1:wc.cell? ⟨gb853,1,none⟩=some (.int .i64 (wrap64 (Int.tmod (IntKind.u64.wrap (a0)) 4))):=(zAB BK853.out 1).trans rfl
   have hcz69_2:wc.cell? ⟨gb853,2,none⟩=some (.int .i64 0):=(zAB BK853.out 2).trans rfl
   have hcz69_3:wc.cell? ⟨gb853,3,none⟩=some (.int .i64 0):=(zAB BK853.out 3).trans rfl
   have hcz69_4:wc.cell? ⟨gb853,4,none⟩=some (.slice none 0 0):=(zAB BK853.out 4).trans rfl
   have hcz69_5:wc.cell? ⟨gb853,5,none⟩=some (.int .i64 0):=(zAB BK853.out 5).trans rfl
   have hfz69_0:=zAA BK853.out 0
   have hfz69_1:=zAA BK853.out 1
   have hfz69_2:=zAA BK853.out 2
   have hfz69_3:=zAA BK853.out 3
   have hfz69_4:=zAA BK853.out 4
   have hfz69_5:=zAA BK853.out 5
   go_wp2_with (first|((with_reducible refine zAO (N:=116) rfl ?_);(try (refine zAP (by rfl) ?_;dsimp only));refine Kd.N_lit k33 _ 33 ?hg (N':=116) ?hd (xs:=([(⟨x854000_6,(wrap64 (Int.tmod (IntKind.u64.wrap (a0)) 4)),0,0,([]:List (S45)),0⟩:S33),(⟨2,1,0,0,([]:List (S45)),0⟩:S33),(⟨6,0,0,0,([]:List (S45)),0⟩:S33)]:List (S33))) (inner:=[.int .i64 x854000_6,.int .i64 (wrap64 (Int.tmod (IntKind.u64.wrap (a0)) 4)),.int .i64 0,.int .i64 0,.slice none 0 0,.int .i64 0,.int .i64 2,.int .i64 1,.int .i64 0,.int .i64 0,.slice none 0 0,.int .i64 0,.int .i64 6,.int .i64 0,.int .i64 0,.int .i64 0,.slice none 0 0,.int .i64 0]) (ok:=(fun k_=>some k_≠(v866:Value).ownBlock∧some k_≠(.slice Ao25 y855.length co25:Value).ownBlock∧some k_≠(.slice Ao39 y862.length co39:Value).ownBlock∧k_≠gb853∧k_≠gb854∧k_≠gb858)) (okp:=(fun k_=>some k_≠(v866:Value).ownBlock∧some k_≠(.slice Ao25 y855.length co25:Value).ownBlock∧some k_≠(.slice Ao39 y862.length co39:Value).ownBlock∧k_≠gb853∧k_≠gb854∧k_≠gb858)) ?hr ?hp (fun _ hk=>hk) ((show ∀ k_,wc.heap.size≤k_→(fun k_=>some k_≠(v866:Value).ownBlock∧some k_≠(.slice Ao25 y855.length co25:Value).ownBlock∧some k_≠(.slice Ao39 y862.length co39:Value).ownBlock∧k_≠gb853∧k_≠gb854∧k_≠gb858) k_ from fun k_ hk=>⟨Kd.fresh' (Kd.R_lt (aR_ HO_12.out)) k_ hk,Kd.fresh' (Kd.R_lt (aR_ HO_859001.out)) k_ hk,Kd.fresh' (Kd.N_lt (aN_ HO_859003.out)) k_ hk,Kd.freshB (g:=gb853) (o:=.cells #[.int .i64 x854000_6,.int .i64 (wrap64 (Int.tmod (IntKind.u64.wrap (a0)) 4)),.int .i64 0,.int .i64 0,.slice none 0 0,.int .i64 0] 33 (0,0)) (aB_ BK853.out) k_ hk,Kd.freshB (g:=gb854) (o:=.cells #[.int .i64 x855000_16,.int .i64 (wrap64 (Int.tmod (IntKind.u64.wrap (a1)) 4)),.int .i64 0,.int .i64 0,.slice none 0 0,.int .i64 0] 33 (0,0)) (aB_ BK854.out) k_ hk,Kd.freshB (g:=gb858) (o:=.cells #[.string (⟨#[112]⟩:ByteArray),.slice Ao25 y855.length co25,.int .i64 0,.slice Ao39 y862.length co39] 25 (0,0)) (aB_ BK858.out) k_ hk⟩) _ (Nat.le_refl _)) (Below.refl _ _) (Nat.le_refl _) (by simp) ?_;(case hd=>rfl);(case hg=>rfl);(case hr=>first|(go_simp;done)|(go_simp;rfl));(case hp=>exact (Reps.c6 (show Kd.FK k33 _ _ (⟨x854000_6,(wrap64 (Int.tmod (IntKind.u64.wrap (a0)) 4)),0,0,([]:List (S45)),0⟩:S33) [.int .i64 x854000_6,.int .i64 (wrap64 (Int.tmod (IntKind.u64.wrap (a0)) 4)),.int .i64 0,.int .i64 0,.slice none 0 0,.int .i64 0] from (k33_mkF _ _ (⟨x854000_6,(wrap64 (Int.tmod (IntKind.u64.wrap (a0)) 4)),0,0,([]:List (S45)),0⟩:S33) (Nat.le_refl _) (Kd.F_nil _ _ _))) (Reps.c6 (show Kd.FK k33 _ _ (⟨2,1,0,0,([]:List (S45)),0⟩:S33) [.int .i64 2,.int .i64 1,.int .i64 0,.int .i64 0,.slice none 0 0,.int .i64 0] from (k33_mkF _ _ (⟨2,1,0,0,([]:List (S45)),0⟩:S33) (Nat.le_refl _) (Kd.F_nil _ _ _))) (Reps.c6 (show Kd.FK k33 _ _ (⟨6,0,0,0,([]:List (S45)),0⟩:S33) [.int .i64 6,.int .i64 0,.int .i64 0,.int .i64 0,.slice none 0 0,.int .i64 0] from (k33_mkF _ _ (⟨6,0,0,0,([]:List (S45)),0⟩:S33) (Nat.le_refl _) (Kd.F_nil _ _ _))) (Reps.none _ _)))));intro v871 w70 ho71 hb hg_ hnew_;clear hg_ hnew_;(first|rw [← Ny870.out] at ho71|(simp only [Int.reduceToNat] at ho71;rw [← Ny870.out] at ho71));have n0_:=aK_ (Kd.R_below (aR_ HO_12.out) hb);have n1_:=aK_ (Kd.R_below (aR_ HO_859001.out) hb);have n2_:=aK_ (Kd.N_elder' (aN_ HO_859003.out) (Kd.N_base ho71) hb);have n3_:=aK_ (Kd.N_lower ho71 (zAD (aQ_ HB.out GE853.out GE854.out GE858.out)));have n4_:=aK_ (zAI (g:=gb853) (o:=.cells #[.int .i64 x854000_6,.int .i64 (wrap64 (Int.tmod (IntKind.u64.wrap (a0)) 4)),.int .i64 0,.int .i64 0,.slice none 0 0,.int .i64 0] 33 (0,0)) (aB_ BK853.out) hb);have n5_:=aK_ (zAI (g:=gb854) (o:=.cells #[.int .i64 x855000_16,.int .i64 (wrap64 (Int.tmod (IntKind.u64.wrap (a1)) 4)),.int .i64 0,.int .i64 0,.slice none 0 0,.int .i64 0] 33 (0,0)) (aB_ BK854.out) hb);have n6_:=aK_ (zAI (g:=gb858) (o:=.cells #[.string (⟨#[112]⟩:ByteArray),.slice Ao25 y855.length co25,.int .i64 0,.slice Ao39 y862.length co39] 25 (0,0)) (aB_ BK858.out) hb);have n7_:=aK_ (zAH (aQ_ HB.out GE853.out GE854.out GE858.out) hb);clear HO_12;clear HO_859001;clear HO_859003;clear BK853;clear BK854;clear BK858;clear HB;have HO_12:=n0_;have HO_859001:=n1_;have HO_859003:=n2_;have HO872:=n3_;have BK853:=n4_;have BK854:=n5_;have BK858:=n6_;have HB:=n7_;clear n0_ n1_ n2_ n3_ n4_ n5_ n6_ n7_;clear hb ho71;obtain ⟨Ao72,co72,eo72⟩:=Kd.N_slice HO872.out;subst eo72;have hnb73:=NB858_854.out;have hnc73:=NB854_858.out;have hcz74_0:w70.cell? ⟨gb858,0,none⟩=some (.string (⟨#[112]⟩:ByteArray)):=(zAB BK858.out 0).trans rfl;have hcz74_1:w70.cell? ⟨gb858,1,none⟩=some (.slice Ao25 y855.length co25):=(zAB BK858.out 1).trans rfl;have hcz74_2:w70.cell? ⟨gb858,2,none⟩=some (.int .i64 0):=(zAB BK858.out 2).trans rfl;have hcz74_3:w70.cell? ⟨gb858,3,none⟩=some (.slice Ao39 y862.length co39):=(zAB BK858.out 3).trans rfl;have hfz74_0:=zAA BK858.out 0;have hfz74_1:=zAA BK858.out 1;have hfz74_2:=zAA BK858.out 2;have hfz74_3:=zAA BK858.out 3)|(go_at_call 33;(with_reducible refine (zAG.calls kj21 (⟨#[112]⟩:ByteArray) _ _ y855 0 _ _ y870 t873 t876 t877 _ ?side1 ?side2 ?side3 ?side4 ?side5 A56.out).mono ?_);(case side1=>(first|(with_reducible exact hG)|((repeat (with_reducible first|exact hG|apply GW.drewN|apply GW.drew|apply GW.alloc));done)|exact GW.below hG (aQ_ HB.out GE853.out GE854.out GE858.out)));(case side2=>refine (Kd.R_reads' (e:=47) (base:=w.heap.size) (ok:=fun k_=>True) (n:=y855.length) (c:=co25) ?_).2.2;exact (by refine aR_ ?_;exact (Kd.R_mono (Kd.R_far (p:=⟨gb858,3,none⟩) (Kd.R_types HO_859001.out BK858.out (by decide)) (fun _ hk=>hk.2) (.slice Ao72 y870.length co72)) (fun _ h_=>h_.1))));(case side3=>exact (Kd.R_reads' HO_859001.out).2.1);(case side4=>refine (Kd.N_reads' (e:=33) (base:=w.heap.size) (ok:=fun k_=>(some k_≠(v866:Value).ownBlock∧(some k_≠(.slice Ao25 y855.length co25:Value).ownBlock∧(some k_≠(.slice Ao39 y862.length co39:Value).ownBlock∧(k_≠gb853∧(k_≠gb854∧k_≠gb858)))))) (n:=y870.length) (c:=co72) ?_).2.2;exact (by refine aN_ ?_;exact (Kd.N_mono (Kd.N_far (p:=⟨gb858,3,none⟩) (Kd.N_mono HO872.out (fun k_ hk=>(⟨hk,hk.2.2.2.2.2⟩:_∧k_≠gb858))) (fun _ hk=>hk.2) (.slice Ao72 y870.length co72)) (fun _ h_=>h_.1))));(case side5=>exact (Kd.N_reads' HO872.out).2.1);rintro e w75 ⟨v874,rfl,ho0,hb⟩;have n0_:=aK_ (Kd.R_elder' (by refine aR_ ?_;exact (Kd.R_mono (Kd.R_far (p:=⟨gb858,3,none⟩) (Kd.R_types HO_12.out BK858.out (by decide)) (fun _ hk=>hk.2) (.slice Ao72 y870.length co72)) (fun _ h_=>h_.1))) (Kd.R_base ho0) hb);have n1_:=aK_ (Kd.R_below (by refine aR_ ?_;exact (Kd.R_mono (Kd.R_far (p:=⟨gb858,3,none⟩) (Kd.R_types HO_859001.out BK858.out (by decide)) (fun _ hk=>hk.2) (.slice Ao72 y870.length co72)) (fun _ h_=>h_.1))) hb);have n2_:=aK_ (Kd.N_elder' (by refine aN_ ?_;exact (Kd.N_mono (Kd.N_far (p:=⟨gb858,3,none⟩) (Kd.N_mono HO_859003.out (fun k_ hk=>(⟨hk,hk.1.2.2.2.2⟩:_∧k_≠gb858))) (fun _ hk=>hk.2) (.slice Ao72 y870.length co72)) (fun _ h_=>h_.1))) (Kd.R_base ho0) hb);have n3_:=aK_ (Kd.N_elder' (by refine aN_ ?_;exact (Kd.N_mono (Kd.N_far (p:=⟨gb858,3,none⟩) (Kd.N_mono HO872.out (fun k_ hk=>(⟨hk,hk.2.2.2.2.2⟩:_∧k_≠gb858))) (fun _ hk=>hk.2) (.slice Ao72 y870.length co72)) (fun _ h_=>h_.1))) (Kd.R_base ho0) hb);have n4_:=aK_ (Kd.R_lower (Kd.R_new' ho0 (Kd.R_lt (by refine aR_ ?_;exact (Kd.R_mono (Kd.R_far (p:=⟨gb858,3,none⟩) (Kd.R_types HO_12.out BK858.out (by decide)) (fun _ hk=>hk.2) (.slice Ao72 y870.length co72)) (fun _ h_=>h_.1))))) (zAD (aQ_ HB.out GE853.out GE854.out GE858.out)));have n5_:=aK_ (zAI (g:=gb853) (o:=.cells #[.int .i64 x854000_6,.int .i64 (wrap64 (Int.tmod (IntKind.u64.wrap (a0)) 4)),.int .i64 0,.int .i64 0,.slice none 0 0,.int .i64 0] 33 (0,0)) (by refine aB_ ?_;refine zAV ?_ NB853_858.out _;refine aB_ ?_;exact BK853.out) hb);have n6_:=aK_ (zAI (g:=gb854) (o:=.cells #[.int .i64 x855000_16,.int .i64 (wrap64 (Int.tmod (IntKind.u64.wrap (a1)) 4)),.int .i64 0,.int .i64 0,.slice none 0 0,.int .i64 0] 33 (0,0)) (by refine aB_ ?_;refine zAV ?_ NB854_858.out _;refine aB_ ?_;exact BK854.out) hb);have n7_:=aK_ (zAI (g:=gb858) (o:=.cells #[.string (⟨#[112]⟩:ByteArray),.slice Ao25 y855.length co25,.int .i64 0,.slice Ao72 y870.length co72] 25 (0,0)) (by refine aB_ ?_;refine zAN (cs:=#[.string (⟨#[112]⟩:ByteArray),.slice Ao25 y855.length co25,.int .i64 0,.slice Ao39 y862.length co39]) ?_ 3 _ rfl;refine aB_ ?_;exact BK858.out) hb);have n8_:=aK_ (zAH (aQ_ HB.out GE853.out GE854.out GE858.out) hb);clear HO_12;clear HO_859001;clear HO_859003;clear HO872;clear BK853;clear BK854;clear BK858;clear HB;have HO_12:=n0_;have HO_859001:=n1_;have HO_859003:=n2_;have HO872:=n3_;have HO875:=n4_;have BK853:=n5_;have BK854:=n6_;have BK858:=n7_;have HB:=n8_;clear n0_ n1_ n2_ n3_ n4_ n5_ n6_ n7_ n8_;(try clear hb);(try clear hb2);(try clear hk);(try clear hi);(try clear ho0)))
   repeat (go_quiet (first|((with_reducible refine zAO (N:=116) rfl ?_);(try (refine zAP (by rfl) ?_;dsimp only));refine Kd.N_lit k33 _ 33 ?hg (N':=116) ?hd (xs:=([(⟨x854000_6,(wrap64 (Int.tmod (IntKind.u64.wrap (a0)) 4)),0,0,([]:List (S45)),0⟩:S33),(⟨2,1,0,0,([]:List (S45)),0⟩:S33),(⟨6,0,0,0,([]:List (S45)),0⟩:S33)]:List (S33))) (inner:=[.int .i64 x854000_6,.int .i64 (wrap64 (Int.tmod (IntKind.u64.wrap (a0)) 4)),.int .i64 0,.int .i64 0,.slice none 0 0,.int .i64 0,.int .i64 2,.int .i64 1,.int .i64 0,.int .i64 0,.slice none 0 0,.int .i64 0,.int .i64 6,.int .i64 0,.int .i64 0,.int .i64 0,.slice none 0 0,.int .i64 0]) (ok:=(fun k_=>some k_≠(v866:Value).ownBlock∧some k_≠(.slice Ao25 y855.length co25:Value).ownBlock∧some k_≠(.slice Ao39 y862.length co39:Value).ownBlock∧k_≠gb853∧k_≠gb854∧k_≠gb858)) (okp:=(fun k_=>some k_≠(v866:Value).ownBlock∧some k_≠(.slice Ao25 y855.length co25:Value).ownBlock∧some k_≠(.slice Ao39 y862.length co39:Value).ownBlock∧k_≠gb853∧k_≠gb854∧k_≠gb858)) ?hr ?hp (fun _ hk=>hk) ((show ∀ k_,wc.heap.size≤k_→(fun k_=>some k_≠(v866:Value).ownBlock∧some k_≠(.slice Ao25 y855.length co25:Value).ownBlock∧some k_≠(.slice Ao39 y862.length co39:Value).ownBlock∧k_≠gb853∧k_≠gb854∧k_≠gb858) k_ from fun k_ hk=>⟨Kd.fresh' (Kd.R_lt (aR_ HO_12.out)) k_ hk,Kd.fresh' (Kd.R_lt (aR_ HO_859001.out)) k_ hk,Kd.fresh' (Kd.N_lt (aN_ HO_859003.out)) k_ hk,Kd.freshB (g:=gb853) (o:=.cells #[.int .i64 x854000_6,.int .i64 (wrap64 (Int.tmod (IntKind.u64.wrap (a0)) 4)),.int .i64 0,.int .i64 0,.slice none 0 0,.int .i64 0] 33 (0,0)) (aB_ BK853.out) k_ hk,Kd.freshB (g:=gb854) (o:=.cells #[.int .i64 x855000_16,.int .i64 (wrap64 (Int.tmod (IntKind.u64.wrap (a1)) 4)),.int .i64 0,.int .i64 0,.slice none 0 0,.int .i64 0] 33 (0,0)) (aB_ BK854.out) k_ hk,Kd.freshB (g:=gb858) (o:=.cells #[.string (⟨#[112]⟩:ByteArray),.slice Ao25 y855.length co25,.int .i64 0,.slice Ao39 y862.length co39] 25 (0,0)) (aB_ BK858.out) k_ hk⟩) _ (Nat.le_refl _)) (Below.refl _ _) (Nat.le_refl _) (by simp) ?_;(case hd=>rfl);(case hg=>rfl);(case hr=>first|(go_simp;done)|(go_simp;rfl));(case hp=>exact (Reps.c6 (show Kd.FK k33 _ _ (⟨x854000_6,(wrap64 (Int.tmod (IntKind.u64.wrap (a0)) 4)),0,0,([]:List (S45)),0⟩:S33) [.int .i64 x854000_6,.int .i64 (wrap64 (Int.tmod (IntKind.u64.wrap (a0)) 4)),.int .i64 0,.int .i64 0,.slice none 0 0,.int .i64 0] from (k33_mkF _ _ (⟨x854000_6,(wrap64 (Int.tmod (IntKind.u64.wrap (a0)) 4)),0,0,([]:List (S45)),0⟩:S33) (Nat.le_refl _) (Kd.F_nil _ _ _))) (Reps.c6 (show Kd.FK k33 _ _ (⟨2,1,0,0,([]:List (S45)),0⟩:S33) [.int .i64 2,.int .i64 1,.int .i64 0,.int .i64 0,.slice none 0 0,.int .i64 0] from (k33_mkF _ _ (⟨2,1,0,0,([]:List (S45)),0⟩:S33) (Nat.le_refl _) (Kd.F_nil _ _ _))) (Reps.c6 (show Kd.FK k33 _ _ (⟨6,0,0,0,([]:List (S45)),0⟩:S33) [.int .i64 6,.int .i64 0,.int .i64 0,.int .i64 0,.slice none 0 0,.int .i64 0] from (k33_mkF _ _ (⟨6,0,0,0,([]:List (S45)),0⟩:S33) (Nat.le_refl _) (Kd.F_nil _ _ _))) (Reps.none _ _)))));intro v871 w70 ho71 hb hg_ hnew_;clear hg_ hnew_;(first|rw [← Ny870.out] at ho71|(simp only [Int.reduceToNat] at ho71;rw [← Ny870.out] at ho71));have n0_:=aK_ (Kd.R_below (aR_ HO_12.out) hb);have n1_:=aK_ (Kd.R_below (aR_ HO_859001.out) hb);have n2_:=aK_ (Kd.N_elder' (aN_ HO_859003.out) (Kd.N_base ho71) hb);have n3_:=aK_ (Kd.N_lower ho71 (zAD (aQ_ HB.out GE853.out GE854.out GE858.out)));have n4_:=aK_ (zAI (g:=gb853) (o:=.cells #[.int .i64 x854000_6,.int .i64 (wrap64 (Int.tmod (IntKind.u64.wrap (a0)) 4)),.int .i64 0,.int .i64 0,.slice none 0 0,.int .i64 0] 33 (0,0)) (aB_ BK853.out) hb);have n5_:=aK_ (zAI (g:=gb854) (o:=.cells #[.int .i64 x855000_16,.int .i64 (wrap64 (Int.tmod (IntKind.u64.wrap (a1)) 4)),.int .i64 0,.int .i64 0,.slice none 0 0,.int .i64 0] 33 (0,0)) (aB_ BK854.out) hb);have n6_:=aK_ (zAI (g:=gb858) (o:=.cells #[.string (⟨#[112]⟩:ByteArray),.slice Ao25 y855.length co25,.int .i64 0,.slice Ao39 y862.length co39] 25 (0,0)) (aB_ BK858.out) hb);have n7_:=aK_ (zAH (aQ_ HB.out GE853.out GE854.out GE858.out) hb);clear HO_12;clear HO_859001;clear HO_859003;clear BK853;clear BK854;clear BK858;clear HB;have HO_12:=n0_;have HO_859001:=n1_;have HO_859003:=n2_;have HO872:=n3_;have BK853:=n4_;have BK854:=n5_;have BK858:=n6_;have HB:=n7_;clear n0_ n1_ n2_ n3_ n4_ n5_ n6_ n7_;clear hb ho71;obtain ⟨Ao72,co72,eo72⟩:=Kd.N_slice HO872.out;subst eo72;have hnb73:=NB858_854.out;have hnc73:=NB854_858.out;have hcz74_0:w70.cell? ⟨gb858,0,none⟩=some (.string (⟨#[112]⟩:ByteArray)):=(zAB BK858.out 0).trans rfl;have hcz74_1:w70.cell? ⟨gb858,1,none⟩=some (.slice Ao25 y855.length co25):=(zAB BK858.out 1).trans rfl;have hcz74_2:w70.cell? ⟨gb858,2,none⟩=some (.int .i64 0):=(zAB BK858.out 2).trans rfl;have hcz74_3:w70.cell? ⟨gb858,3,none⟩=some (.slice Ao39 y862.length co39):=(zAB BK858.out 3).trans rfl;have hfz74_0:=zAA BK858.out 0;have hfz74_1:=zAA BK858.out 1;have hfz74_2:=zAA BK858.out 2;have hfz74_3:=zAA BK858.out 3)|(go_at_call 33;(with_reducible refine (zAG.calls kj21 (⟨#[112]⟩:ByteArray) _ _ y855 0 _ _ y870 t873 t876 t877 _ ?side1 ?side2 ?side3 ?side4 ?side5 A56.out).mono ?_);(case side1=>(first|(with_reducible exact hG)|((repeat (with_reducible first|exact hG|apply GW.drewN|apply GW.drew|apply GW.alloc));done)|exact GW.below hG (aQ_ HB.out GE853.out GE854.out GE858.out)));(case side2=>refine (Kd.R_reads' (e:=47) (base:=w.heap.size) (ok:=fun k_=>True) (n:=y855.length) (c:=co25) ?_).2.2;exact (by refine aR_ ?_;exact (Kd.R_mono (Kd.R_far (p:=⟨gb858,3,none⟩) (Kd.R_types HO_859001.out BK858.out (by decide)) (fun _ hk=>hk.2) (.slice Ao72 y870.length co72)) (fun _ h_=>h_.1))));(case side3=>exact (Kd.R_reads' HO_859001.out).2.1);(case side4=>refine (Kd.N_reads' (e:=33) (base:=w.heap.size) (ok:=fun k_=>(some k_≠(v866:Value).ownBlock∧(some k_≠(.slice Ao25 y855.length co25:Value).ownBlock∧(some k_≠(.slice Ao39 y862.length co39:Value).ownBlock∧(k_≠gb853∧(k_≠gb854∧k_≠gb858)))))) (n:=y870.length) (c:=co72) ?_).2.2;exact (by refine aN_ ?_;exact (Kd.N_mono (Kd.N_far (p:=⟨gb858,3,none⟩) (Kd.N_mono HO872.out (fun k_ hk=>(⟨hk,hk.2.2.2.2.2⟩:_∧k_≠gb858))) (fun _ hk=>hk.2) (.slice Ao72 y870.length co72)) (fun _ h_=>h_.1))));(case side5=>exact (Kd.N_reads' HO872.out).2.1);rintro e w75 ⟨v874,rfl,ho0,hb⟩;have n0_:=aK_ (Kd.R_elder' (by refine aR_ ?_;exact (Kd.R_mono (Kd.R_far (p:=⟨gb858,3,none⟩) (Kd.R_types HO_12.out BK858.out (by decide)) (fun _ hk=>hk.2) (.slice Ao72 y870.length co72)) (fun _ h_=>h_.1))) (Kd.R_base ho0) hb);have n1_:=aK_ (Kd.R_below (by refine aR_ ?_;exact (Kd.R_mono (Kd.R_far (p:=⟨gb858,3,none⟩) (Kd.R_types HO_859001.out BK858.out (by decide)) (fun _ hk=>hk.2) (.slice Ao72 y870.length co72)) (fun _ h_=>h_.1))) hb);have n2_:=aK_ (Kd.N_elder' (by refine aN_ ?_;exact (Kd.N_mono (Kd.N_far (p:=⟨gb858,3,none⟩) (Kd.N_mono HO_859003.out (fun k_ hk=>(⟨hk,hk.1.2.2.2.2⟩:_∧k_≠gb858))) (fun _ hk=>hk.2) (.slice Ao72 y870.length co72)) (fun _ h_=>h_.1))) (Kd.R_base ho0) hb);have n3_:=aK_ (Kd.N_elder' (by refine aN_ ?_;exact (Kd.N_mono (Kd.N_far (p:=⟨gb858,3,none⟩) (Kd.N_mono HO872.out (fun k_ hk=>(⟨hk,hk.2.2.2.2.2⟩:_∧k_≠gb858))) (fun _ hk=>hk.2) (.slice Ao72 y870.length co72)) (fun _ h_=>h_.1))) (Kd.R_base ho0) hb);have n4_:=aK_ (Kd.R_lower (Kd.R_new' ho0 (Kd.R_lt (by refine aR_ ?_;exact (Kd.R_mono (Kd.R_far (p:=⟨gb858,3,none⟩) (Kd.R_types HO_12.out BK858.out (by decide)) (fun _ hk=>hk.2) (.slice Ao72 y870.length co72)) (fun _ h_=>h_.1))))) (zAD (aQ_ HB.out GE853.out GE854.out GE858.out)));have n5_:=aK_ (zAI (g:=gb853) (o:=.cells #[.int .i64 x854000_6,.int .i64 (wrap64 (Int.tmod (IntKind.u64.wrap (a0)) 4)),.int .i64 0,.int .i64 0,.slice none 0 0,.int .i64 0] 33 (0,0)) (by refine aB_ ?_;refine zAV ?_ NB853_858.out _;refine aB_ ?_;exact BK853.out) hb);have n6_:=aK_ (zAI (g:=gb854) (o:=.cells #[.int .i64 x855000_16,.int .i64 (wrap64 (Int.tmod (IntKind.u64.wrap (a1)) 4)),.int .i64 0,.int .i64 0,.slice none 0 0,.int .i64 0] 33 (0,0)) (by refine aB_ ?_;refine zAV ?_ NB854_858.out _;refine aB_ ?_;exact BK854.out) hb);have n7_:=aK_ (zAI (g:=gb858) (o:=.cells #[.string (⟨#[112]⟩:ByteArray),.slice Ao25 y855.length co25,.int .i64 0,.slice Ao72 y870.length co72] 25 (0,0)) (by refine aB_ ?_;refine zAN (cs:=#[.string (⟨#[112]⟩:ByteArray),.slice Ao25 y855.length co25,.int .i64 0,.slice Ao39 y862.length co39]) ?_ 3 _ rfl;refine aB_ ?_;exact BK858.out) hb);have n8_:=aK_ (zAH (aQ_ HB.out GE853.out GE854.out GE858.out) hb);clear HO_12;clear HO_859001;clear HO_859003;clear HO872;clear BK853;clear BK854;clear BK858;clear HB;have HO_12:=n0_;have HO_859001:=n1_;have HO_859003:=n2_;have HO872:=n3_;have HO875:=n4_;have BK853:=n5_;have BK854:=n6_;have BK858:=n7_;have HB:=n8_;clear n0_ n1_ n2_ n3_ n4_ n5_ n6_ n7_ n8_;(try clear hb);(try clear hb2);(try clear hk);(try clear hi);(try clear ho0)));try go_wp2_with (first|((with_reducible refine zAO (N:=116) rfl ?_);(try (refine zAP (by rfl) ?_;dsimp only));refine Kd.N_lit k33 _ 33 ?hg (N':=116) ?hd (xs:=([(⟨x854000_6,(wrap64 (Int.tmod (IntKind.u64.wrap (a0)) 4)),0,0,([]:List (S45)),0⟩:S33),(⟨2,1,0,0,([]:List (S45)),0⟩:S33),(⟨6,0,0,0,([]:List (S45)),0⟩:S33)]:List (S33))) (inner:=[.int .i64 x854000_6,.int .i64 (wrap64 (Int.tmod (IntKind.u64.wrap (a0)) 4)),.int .i64 0,.int .i64 0,.slice none 0 0,.int .i64 0,.int .i64 2,.int .i64 1,.int .i64 0,.int .i64 0,.slice none 0 0,.int .i64 0,.int .i64 6,.int .i64 0,.int .i64 0,.int .i64 0,.slice none 0 0,.int .i64 0]) (ok:=(fun k_=>some k_≠(v866:Value).ownBlock∧some k_≠(.slice Ao25 y855.length co25:Value).ownBlock∧some k_≠(.slice Ao39 y862.length co39:Value).ownBlock∧k_≠gb853∧k_≠gb854∧k_≠gb858)) (okp:=(fun k_=>some k_≠(v866:Value).ownBlock∧some k_≠(.slice Ao25 y855.length co25:Value).ownBlock∧some k_≠(.slice Ao39 y862.length co39:Value).ownBlock∧k_≠gb853∧k_≠gb854∧k_≠gb858)) ?hr ?hp (fun _ hk=>hk) ((show ∀ k_,wc.heap.size≤k_→(fun k_=>some k_≠(v866:Value).ownBlock∧some k_≠(.slice Ao25 y855.length co25:Value).ownBlock∧some k_≠(.slice Ao39 y862.length co39:Value).ownBlock∧k_≠gb853∧k_≠gb854∧k_≠gb858) k_ from fun k_ hk=>⟨Kd.fresh' (Kd.R_lt (aR_ HO_12.out)) k_ hk,Kd.fresh' (Kd.R_lt (aR_ HO_859001.out)) k_ hk,Kd.fresh' (Kd.N_lt (aN_ HO_859003.out)) k_ hk,Kd.freshB (g:=gb853) (o:=.cells #[.int .i64 x854000_6,.int .i64 (wrap64 (Int.tmod (IntKind.u64.wrap (a0)) 4)),.int .i64 0,.int .i64 0,.slice none 0 0,.int .i64 0] 33 (0,0)) (aB_ BK853.out) k_ hk,Kd.freshB (g:=gb854) (o:=.cells #[.int .i64 x855000_16,.int .i64 (wrap64 (Int.tmod (IntKind.u64.wrap (a1)) 4)),.int .i64 0,.int .i64 0,.slice none 0 0,.int .i64 0] 33 (0,0)) (aB_ BK854.out) k_ hk,Kd.freshB (g:=gb858) (o:=.cells #[.string (⟨#[112]⟩:ByteArray),.slice Ao25 y855.length co25,.int .i64 0,.slice Ao39 y862.length co39] 25 (0,0)) (aB_ BK858.out) k_ hk⟩) _ (Nat.le_refl _)) (Below.refl _ _) (Nat.le_refl _) (by simp) ?_;(case hd=>rfl);(case hg=>rfl);(case hr=>first|(go_simp;done)|(go_simp;rfl));(case hp=>exact (Reps.c6 (show Kd.FK k33 _ _ (⟨x854000_6,(wrap64 (Int.tmod (IntKind.u64.wrap (a0)) 4)),0,0,([]:List (S45)),0⟩:S33) [.int .i64 x854000_6,.int .i64 (wrap64 (Int.tmod (IntKind.u64.wrap (a0)) 4)),.int .i64 0,.int .i64 0,.slice none 0 0,.int .i64 0] from (k33_mkF _ _ (⟨x854000_6,(wrap64 (Int.tmod (IntKind.u64.wrap (a0)) 4)),0,0,([]:List (S45)),0⟩:S33) (Nat.le_refl _) (Kd.F_nil _ _ _))) (Reps.c6 (show Kd.FK k33 _ _ (⟨2,1,0,0,([]:List (S45)),0⟩:S33) [.int .i64 2,.int .i64 1,.int .i64 0,.int .i64 0,.slice none 0 0,.int .i64 0] from (k33_mkF _ _ (⟨2,1,0,0,([]:List (S45)),0⟩:S33) (Nat.le_refl _) (Kd.F_nil _ _ _))) (Reps.c6 (show Kd.FK k33 _ _ (⟨6,0,0,0,([]:List (S45)),0⟩:S33) [.int .i64 6,.int .i64 0,.int .i64 0,.int .i64 0,.slice none 0 0,.int .i64 0] from (k33_mkF _ _ (⟨6,0,0,0,([]:List (S45)),0⟩:S33) (Nat.le_refl _) (Kd.F_nil _ _ _))) (Reps.none _ _)))));intro v871 w70 ho71 hb hg_ hnew_;clear hg_ hnew_;(first|rw [← Ny870.out] at ho71|(simp only [Int.reduceToNat] at ho71;rw [← Ny870.out] at ho71));have n0_:=aK_ (Kd.R_below (aR_ HO_12.out) hb);have n1_:=aK_ (Kd.R_below (aR_ HO_859001.out) hb);have n2_:=aK_ (Kd.N_elder' (aN_ HO_859003.out) (Kd.N_base ho71) hb);have n3_:=aK_ (Kd.N_lower ho71 (zAD (aQ_ HB.out GE853.out GE854.out GE858.out)));have n4_:=aK_ (zAI (g:=gb853) (o:=.cells #[.int .i64 x854000_6,.int .i64 (wrap64 (Int.tmod (IntKind.u64.wrap (a0)) 4)),.int .i64 0,.int .i64 0,.slice none 0 0,.int .i64 0] 33 (0,0)) (aB_ BK853.out) hb);have n5_:=aK_ (zAI (g:=gb854) (o:=.cells #[.int .i64 x855000_16,.int .i64 (wrap64 (Int.tmod (IntKind.u64.wrap (a1)) 4)),.int .i64 0,.int .i64 0,.slice none 0 0,.int .i64 0] 33 (0,0)) (aB_ BK854.out) hb);have n6_:=aK_ (zAI (g:=gb858) (o:=.cells #[.string (⟨#[112]⟩:ByteArray),.slice Ao25 y855.length co25,.int .i64 0,.slice Ao39 y862.length co39] 25 (0,0)) (aB_ BK858.out) hb);have n7_:=aK_ (zAH (aQ_ HB.out GE853.out GE854.out GE858.out) hb);clear HO_12;clear HO_859001;clear HO_859003;clear BK853;clear BK854;clear BK858;clear HB;have HO_12:=n0_;have HO_859001:=n1_;have HO_859003:=n2_;have HO872:=n3_;have BK853:=n4_;have BK854:=n5_;have BK858:=n6_;have HB:=n7_;clear n0_ n1_ n2_ n3_ n4_ n5_ n6_ n7_;clear hb ho71;obtain ⟨Ao72,co72,eo72⟩:=Kd.N_slice HO872.out;subst eo72;have hnb73:=NB858_854.out;have hnc73:=NB854_858.out;have hcz74_0:w70.cell? ⟨gb858,0,none⟩=some (.string (⟨#[112]⟩:ByteArray)):=(zAB BK858.out 0).trans rfl;have hcz74_1:w70.cell? ⟨gb858,1,none⟩=some (.slice Ao25 y855.length co25):=(zAB BK858.out 1).trans rfl;have hcz74_2:w70.cell? ⟨gb858,2,none⟩=some (.int .i64 0):=(zAB BK858.out 2).trans rfl;have hcz74_3:w70.cell? ⟨gb858,3,none⟩=some (.slice Ao39 y862.length co39):=(zAB BK858.out 3).trans rfl;have hfz74_0:=zAA BK858.out 0;have hfz74_1:=zAA BK858.out 1;have hfz74_2:=zAA BK858.out 2;have hfz74_3:=zAA BK858.out 3)|(go_at_call 33;(with_reducible refine (zAG.calls kj21 (⟨#[112]⟩:ByteArray) _ _ y855 0 _ _ y870 t873 t876 t877 _ ?side1 ?side2 ?side3 ?side4 ?side5 A56.out).mono ?_);(case side1=>(first|(with_reducible exact hG)|((repeat (with_reducible first|exact hG|apply GW.drewN|apply GW.drew|apply GW.alloc));done)|exact GW.below hG (aQ_ HB.out GE853.out GE854.out GE858.out)));(case side2=>refine (Kd.R_reads' (e:=47) (base:=w.heap.size) (ok:=fun k_=>True) (n:=y855.length) (c:=co25) ?_).2.2;exact (by refine aR_ ?_;exact (Kd.R_mono (Kd.R_far (p:=⟨gb858,3,none⟩) (Kd.R_types HO_859001.out BK858.out (by decide)) (fun _ hk=>hk.2) (.slice Ao72 y870.length co72)) (fun _ h_=>h_.1))));(case side3=>exact (Kd.R_reads' HO_859001.out).2.1);(case side4=>refine (Kd.N_reads' (e:=33) (base:=w.heap.size) (ok:=fun k_=>(some k_≠(v866:Value).ownBlock∧(some k_≠(.slice Ao25 y855.length co25:Value).ownBlock∧(some k_≠(.slice Ao39 y862.length co39:Value).ownBlock∧(k_≠gb853∧(k_≠gb854∧k_≠gb858)))))) (n:=y870.length) (c:=co72) ?_).2.2;exact (by refine aN_ ?_;exact (Kd.N_mono (Kd.N_far (p:=⟨gb858,3,none⟩) (Kd.N_mono HO872.out (fun k_ hk=>(⟨hk,hk.2.2.2.2.2⟩:_∧k_≠gb858))) (fun _ hk=>hk.2) (.slice Ao72 y870.length co72)) (fun _ h_=>h_.1))));(case side5=>exact (Kd.N_reads' HO872.out).2.1);rintro e w75 ⟨v874,rfl,ho0,hb⟩;have n0_:=aK_ (Kd.R_elder' (by refine aR_ ?_;exact (Kd.R_mono (Kd.R_far (p:=⟨gb858,3,none⟩) (Kd.R_types HO_12.out BK858.out (by decide)) (fun _ hk=>hk.2) (.slice Ao72 y870.length co72)) (fun _ h_=>h_.1))) (Kd.R_base ho0) hb);have n1_:=aK_ (Kd.R_below (by refine aR_ ?_;exact (Kd.R_mono (Kd.R_far (p:=⟨gb858,3,none⟩) (Kd.R_types HO_859001.out BK858.out (by decide)) (fun _ hk=>hk.2) (.slice Ao72 y870.length co72)) (fun _ h_=>h_.1))) hb);have n2_:=aK_ (Kd.N_elder' (by refine aN_ ?_;exact (Kd.N_mono (Kd.N_far (p:=⟨gb858,3,none⟩) (Kd.N_mono HO_859003.out (fun k_ hk=>(⟨hk,hk.1.2.2.2.2⟩:_∧k_≠gb858))) (fun _ hk=>hk.2) (.slice Ao72 y870.length co72)) (fun _ h_=>h_.1))) (Kd.R_base ho0) hb);have n3_:=aK_ (Kd.N_elder' (by refine aN_ ?_;exact (Kd.N_mono (Kd.N_far (p:=⟨gb858,3,none⟩) (Kd.N_mono HO872.out (fun k_ hk=>(⟨hk,hk.2.2.2.2.2⟩:_∧k_≠gb858))) (fun _ hk=>hk.2) (.slice Ao72 y870.length co72)) (fun _ h_=>h_.1))) (Kd.R_base ho0) hb);have n4_:=aK_ (Kd.R_lower (Kd.R_new' ho0 (Kd.R_lt (by refine aR_ ?_;exact (Kd.R_mono (Kd.R_far (p:=⟨gb858,3,none⟩) (Kd.R_types HO_12.out BK858.out (by decide)) (fun _ hk=>hk.2) (.slice Ao72 y870.length co72)) (fun _ h_=>h_.1))))) (zAD (aQ_ HB.out GE853.out GE854.out GE858.out)));have n5_:=aK_ (zAI (g:=gb853) (o:=.cells #[.int .i64 x854000_6,.int .i64 (wrap64 (Int.tmod (IntKind.u64.wrap (a0)) 4)),.int .i64 0,.int .i64 0,.slice none 0 0,.int .i64 0] 33 (0,0)) (by refine aB_ ?_;refine zAV ?_ NB853_858.out _;refine aB_ ?_;exact BK853.out) hb);have n6_:=aK_ (zAI (g:=gb854) (o:=.cells #[.int .i64 x855000_16,.int .i64 (wrap64 (Int.tmod (IntKind.u64.wrap (a1)) 4)),.int .i64 0,.int .i64 0,.slice none 0 0,.int .i64 0] 33 (0,0)) (by refine aB_ ?_;refine zAV ?_ NB854_858.out _;refine aB_ ?_;exact BK854.out) hb);have n7_:=aK_ (zAI (g:=gb858) (o:=.cells #[.string (⟨#[112]⟩:ByteArray),.slice Ao25 y855.length co25,.int .i64 0,.slice Ao72 y870.length co72] 25 (0,0)) (by refine aB_ ?_;refine zAN (cs:=#[.string (⟨#[112]⟩:ByteArray),.slice Ao25 y855.length co25,.int .i64 0,.slice Ao39 y862.length co39]) ?_ 3 _ rfl;refine aB_ ?_;exact BK858.out) hb);have n8_:=aK_ (zAH (aQ_ HB.out GE853.out GE854.out GE858.out) hb);clear HO_12;clear HO_859001;clear HO_859003;clear HO872;clear BK853;clear BK854;clear BK858;clear HB;have HO_12:=n0_;have HO_859001:=n1_;have HO_859003:=n2_;have HO872:=n3_;have HO875:=n4_;have BK853:=n5_;have BK854:=n6_;have BK858:=n7_;have HB:=n8_;clear n0_ n1_ n2_ n3_ n4_ n5_ n6_ n7_ n8_;(try clear hb);(try clear hb2);(try clear hk);(try clear hi);(try clear ho0))))
   go_ret
   exact ⟨by first|rfl|(simp [zAK,zAL] <;> rfl)|(simp [*,zAK,zAL] <;> rfl),aQ_ HB.out GE853.out GE854.out GE858.out⟩
  rw [if_pos c57] at H
  have c57b0:(t877 == 80)=true:=beq_iff_eq.mpr c57
  have c57b1:(t877 != 80)=false:=bne_eq_false_iff_eq.mpr c57
  clear c57
  obtain rfl:=Option.some.inj H
  have hnb58:=NB853_854.out
  have hnc58:=NB854_853.out
  have hnb59:=NB853_858.out
  have hnc59:=NB858_853.out
  have hcz60_0:wc.cell? ⟨gb853,0,none⟩=some (.int .i64 x854000_6):=(zAB BK853.out 0).trans rfl
  have hcz60_1:wc.cell? ⟨gb853,1,none⟩=some (.int .i64 (wrap64 (Int.tmod (IntKind.u64.wrap (a0)) 4))):=(zAB BK853.out 1).trans rfl
  have hcz60_2:wc.cell? ⟨gb853,2,none⟩=some (.int .i64 0):=(zAB BK853.out 2).trans rfl
  have hcz60_3:wc.cell? ⟨gb853,3,none⟩=some (.int .i64 0):=(zAB BK853.out 3).trans rfl
  have hcz60_4:wc.cell? ⟨gb853,4,none⟩=some (.slice none 0 0):=(zAB BK853.out 4).trans rfl
  have hcz60_5:wc.cell? ⟨gb853,5,none⟩=some (.int .i64 0):=(zAB BK853.out 5).trans rfl
  have hfz60_0:=zAA BK853.out 0
  have hfz60_1:=zAA BK853.out 1
  have hfz60_2:=zAA BK853.out 2
  have hfz60_3:=zAA BK853.out 3
  have hfz60_4:=zAA BK853.out 4
  have hfz60_5:=zAA BK853.out 5
  go_wp2_with (first|((with_reducible refine zAO (N:=116) rfl ?_);(try (refine zAP (by rfl) ?_;dsimp only));refine Kd.N_lit k33 _ 33 ?hg (N':=116) ?hd (xs:=([(⟨x854000_6,(wrap64 (Int.tmod (IntKind.u64.wrap (a0)) 4)),0,0,([]:List (S45)),0⟩:S33),(⟨2,1,0,0,([]:List (S45)),0⟩:S33),(⟨6,0,0,0,([]:List (S45)),0⟩:S33)]:List (S33))) (inner:=[.int .i64 x854000_6,.int .i64 (wrap64 (Int.tmod (IntKind.u64.wrap (a0)) 4)),.int .i64 0,.int .i64 0,.slice none 0 0,.int .i64 0,.int .i64 2,.int .i64 1,.int .i64 0,.int .i64 0,.slice none 0 0,.int .i64 0,.int .i64 6,.int .i64 0,.int .i64 0,.int .i64 0,.slice none 0 0,.int .i64 0]) (ok:=(fun k_=>some k_≠(v866:Value).ownBlock∧some k_≠(.slice Ao25 y855.length co25:Value).ownBlock∧some k_≠(.slice Ao39 y862.length co39:Value).ownBlock∧k_≠gb853∧k_≠gb854∧k_≠gb858)) (okp:=(fun k_=>some k_≠(v866:Value).ownBlock∧some k_≠(.slice Ao25 y855.length co25:Value).ownBlock∧some k_≠(.slice Ao39 y862.length co39:Value).ownBlock∧k_≠gb853∧k_≠gb854∧k_≠gb858)) ?hr ?hp (fun _ hk=>hk) ((show ∀ k_,wc.heap.size≤k_→(fun k_=>some k_≠(v866:Value).ownBlock∧some k_≠(.slice Ao25 y855.length co25:Value).ownBlock∧some k_≠(.slice Ao39 y862.length co39:Value).ownBlock∧k_≠gb853∧k_≠gb854∧k_≠gb858) k_ from fun k_ hk=>⟨Kd.fresh' (Kd.R_lt (aR_ HO_12.out)) k_ hk,Kd.fresh' (Kd.R_lt (aR_ HO_859001.out)) k_ hk,Kd.fresh' (Kd.N_lt (aN_ HO_859003.out)) k_ hk,Kd.freshB (g:=gb853) (o:=.cells #[.int .i64 x854000_6,.int .i64 (wrap64 (Int.tmod (IntKind.u64.wrap (a0)) 4)),.int .i64 0,.int .i64 0,.slice none 0 0,.int .i64 0] 33 (0,0)) (aB_ BK853.out) k_ hk,Kd.freshB (g:=gb854) (o:=.cells #[.int .i64 x855000_16,.int .i64 (wrap64 (Int.tmod (IntKind.u64.wrap (a1)) 4)),.int .i64 0,.int .i64 0,.slice none 0 0,.int .i64 0] 33 (0,0)) (aB_ BK854.out) k_ hk,Kd.freshB (g:=gb858) (o:=.cells #[.string (⟨#[112]⟩:ByteArray),.slice Ao25 y855.length co25,.int .i64 0,.slice Ao39 y862.length co39] 25 (0,0)) (aB_ BK858.out) k_ hk⟩) _ (Nat.le_refl _)) (Below.refl _ _) (Nat.le_refl _) (by simp) ?_;(case hd=>rfl);(case hg=>rfl);(case hr=>first|(go_simp;done)|(go_simp;rfl));(case hp=>exact (Reps.c6 (show Kd.FK k33 _ _ (⟨x854000_6,(wrap64 (Int.tmod (IntKind.u64.wrap (a0)) 4)),0,0,([]:List (S45)),0⟩:S33) [.int .i64 x854000_6,.int .i64 (wrap64 (Int.tmod (IntKind.u64.wrap (a0)) 4)),.int .i64 0,.int .i64 0,.slice none 0 0,.int .i64 0] from (k33_mkF _ _ (⟨x854000_6,(wrap64 (Int.tmod (IntKind.u64.wrap (a0)) 4)),0,0,([]:List (S45)),0⟩:S33) (Nat.le_refl _) (Kd.F_nil _ _ _))) (Reps.c6 (show Kd.FK k33 _ _ (⟨2,1,0,0,([]:List (S45)),0⟩:S33) [.int .i64 2,.int .i64 1,.int .i64 0,.int .i64 0,.slice none 0 0,.int .i64 0] from (k33_mkF _ _ (⟨2,1,0,0,([]:List (S45)),0⟩:S33) (Nat.le_refl _) (Kd.F_nil _ _ _))) (Reps.c6 (show Kd.FK k33 _ _ (⟨6,0,0,0,([]:List (S45)),0⟩:S33) [.int .i64 6,.int .i64 0,.int .i64 0,.int .i64 0,.slice none 0 0,.int .i64 0] from (k33_mkF _ _ (⟨6,0,0,0,([]:List (S45)),0⟩:S33) (Nat.le_refl _) (Kd.F_nil _ _ _))) (Reps.none _ _)))));intro v871 w61 ho62 hb hg_ hnew_;clear hg_ hnew_;(first|rw [← Ny870.out] at ho62|(simp only [Int.reduceToNat] at ho62;rw [← Ny870.out] at ho62));have n0_:=aK_ (Kd.R_below (aR_ HO_12.out) hb);have n1_:=aK_ (Kd.R_below (aR_ HO_859001.out) hb);have n2_:=aK_ (Kd.N_elder' (aN_ HO_859003.out) (Kd.N_base ho62) hb);have n3_:=aK_ (Kd.N_lower ho62 (zAD (aQ_ HB.out GE853.out GE854.out GE858.out)));have n4_:=aK_ (zAI (g:=gb853) (o:=.cells #[.int .i64 x854000_6,.int .i64 (wrap64 (Int.tmod (IntKind.u64.wrap (a0)) 4)),.int .i64 0,.int .i64 0,.slice none 0 0,.int .i64 0] 33 (0,0)) (aB_ BK853.out) hb);have n5_:=aK_ (zAI (g:=gb854) (o:=.cells #[.int .i64 x855000_16,.int .i64 (wrap64 (Int.tmod (IntKind.u64.wrap (a1)) 4)),.int .i64 0,.int .i64 0,.slice none 0 0,.int .i64 0] 33 (0,0)) (aB_ BK854.out) hb);have n6_:=aK_ (zAI (g:=gb858) (o:=.cells #[.string (⟨#[112]⟩:ByteArray),.slice Ao25 y855.length co25,.int .i64 0,.slice Ao39 y862.length co39] 25 (0,0)) (aB_ BK858.out) hb);have n7_:=aK_ (zAH (aQ_ HB.out GE853.out GE854.out GE858.out) hb);clear HO_12;clear HO_859001;clear HO_859003;clear BK853;clear BK854;clear BK858;clear HB;have HO_12:=n0_;have HO_859001:=n1_;have HO_859003:=n2_;have HO872:=n3_;have BK853:=n4_;have BK854:=n5_;have BK858:=n6_;have HB:=n7_;clear n0_ n1_ n2_ n3_ n4_ n5_ n6_ n7_;clear hb ho62;obtain ⟨Ao63,co63,eo63⟩:=Kd.N_slice HO872.out;subst eo63;have hnb64:=NB858_854.out;have hnc64:=NB854_858.out;have hcz65_0:w61.cell? ⟨gb858,0,none⟩=some (.string (⟨#[112]⟩:ByteArray)):=(zAB BK858.out 0).trans rfl;have hcz65_1:w61.cell? ⟨gb858,1,none⟩=some (.slice Ao25 y855.length co25):=(zAB BK858.out 1).trans rfl;have hcz65_2:w61.cell? ⟨gb858,2,none⟩=some (.int .i64 0):=(zAB BK858.out 2).trans rfl;have hcz65_3:w61.cell? ⟨gb858,3,none⟩=some (.slice Ao39 y862.length co39):=(zAB BK858.out 3).trans rfl;have hfz65_0:=zAA BK858.out 0;have hfz65_1:=zAA BK858.out 1;have hfz65_2:=zAA BK858.out 2;have hfz65_3:=zAA BK858.out 3)|(go_at_call 33;(with_reducible refine (zAG.calls kj21 (⟨#[112]⟩:ByteArray) _ _ y855 0 _ _ y870 t873 t876 t877 _ ?side1 ?side2 ?side3 ?side4 ?side5 A56.out).mono ?_);(case side1=>(first|(with_reducible exact hG)|((repeat (with_reducible first|exact hG|apply GW.drewN|apply GW.drew|apply GW.alloc));done)|exact GW.below hG (aQ_ HB.out GE853.out GE854.out GE858.out)));(case side2=>refine (Kd.R_reads' (e:=47) (base:=w.heap.size) (ok:=fun k_=>True) (n:=y855.length) (c:=co25) ?_).2.2;exact (by refine aR_ ?_;exact (Kd.R_mono (Kd.R_far (p:=⟨gb858,3,none⟩) (Kd.R_types HO_859001.out BK858.out (by decide)) (fun _ hk=>hk.2) (.slice Ao63 y870.length co63)) (fun _ h_=>h_.1))));(case side3=>exact (Kd.R_reads' HO_859001.out).2.1);(case side4=>refine (Kd.N_reads' (e:=33) (base:=w.heap.size) (ok:=fun k_=>(some k_≠(v866:Value).ownBlock∧(some k_≠(.slice Ao25 y855.length co25:Value).ownBlock∧(some k_≠(.slice Ao39 y862.length co39:Value).ownBlock∧(k_≠gb853∧(k_≠gb854∧k_≠gb858)))))) (n:=y870.length) (c:=co63) ?_).2.2;exact (by refine aN_ ?_;exact (Kd.N_mono (Kd.N_far (p:=⟨gb858,3,none⟩) (Kd.N_mono HO872.out (fun k_ hk=>(⟨hk,hk.2.2.2.2.2⟩:_∧k_≠gb858))) (fun _ hk=>hk.2) (.slice Ao63 y870.length co63)) (fun _ h_=>h_.1))));(case side5=>exact (Kd.N_reads' HO872.out).2.1);rintro e w66 ⟨v874,rfl,ho0,hb⟩;have n0_:=aK_ (Kd.R_elder' (by refine aR_ ?_;exact (Kd.R_mono (Kd.R_far (p:=⟨gb858,3,none⟩) (Kd.R_types HO_12.out BK858.out (by decide)) (fun _ hk=>hk.2) (.slice Ao63 y870.length co63)) (fun _ h_=>h_.1))) (Kd.R_base ho0) hb);have n1_:=aK_ (Kd.R_below (by refine aR_ ?_;exact (Kd.R_mono (Kd.R_far (p:=⟨gb858,3,none⟩) (Kd.R_types HO_859001.out BK858.out (by decide)) (fun _ hk=>hk.2) (.slice Ao63 y870.length co63)) (fun _ h_=>h_.1))) hb);have n2_:=aK_ (Kd.N_elder' (by refine aN_ ?_;exact (Kd.N_mono (Kd.N_far (p:=⟨gb858,3,none⟩) (Kd.N_mono HO_859003.out (fun k_ hk=>(⟨hk,hk.1.2.2.2.2⟩:_∧k_≠gb858))) (fun _ hk=>hk.2) (.slice Ao63 y870.length co63)) (fun _ h_=>h_.1))) (Kd.R_base ho0) hb);have n3_:=aK_ (Kd.N_elder' (by refine aN_ ?_;exact (Kd.N_mono (Kd.N_far (p:=⟨gb858,3,none⟩) (Kd.N_mono HO872.out (fun k_ hk=>(⟨hk,hk.2.2.2.2.2⟩:_∧k_≠gb858))) (fun _ hk=>hk.2) (.slice Ao63 y870.length co63)) (fun _ h_=>h_.1))) (Kd.R_base ho0) hb);have n4_:=aK_ (Kd.R_lower (Kd.R_new' ho0 (Kd.R_lt (by refine aR_ ?_;exact (Kd.R_mono (Kd.R_far (p:=⟨gb858,3,none⟩) (Kd.R_types HO_12.out BK858.out (by decide)) (fun _ hk=>hk.2) (.slice Ao63 y870.length co63)) (fun _ h_=>h_.1))))) (zAD (aQ_ HB.out GE853.out GE854.out GE858.out)));have n5_:=aK_ (zAI (g:=gb853) (o:=.cells #[.int .i64 x854000_6,.int .i64 (wrap64 (Int.tmod (IntKind.u64.wrap (a0)) 4)),.int .i64 0,.int .i64 0,.slice none 0 0,.int .i64 0] 33 (0,0)) (by refine aB_ ?_;refine zAV ?_ NB853_858.out _;refine aB_ ?_;exact BK853.out) hb);have n6_:=aK_ (zAI (g:=gb854) (o:=.cells #[.int .i64 x855000_16,.int .i64 (wrap64 (Int.tmod (IntKind.u64.wrap (a1)) 4)),.int .i64 0,.int .i64 0,.slice none 0 0,.int .i64 0] 33 (0,0)) (by refine aB_ ?_;refine zAV ?_ NB854_858.out _;refine aB_ ?_;exact BK854.out) hb);have n7_:=aK_ (zAI (g:=gb858) (o:=.cells #[.string (⟨#[112]⟩:ByteArray),.slice Ao25 y855.length co25,.int .i64 0,.slice Ao63 y870.length co63] 25 (0,0)) (by refine aB_ ?_;refine zAN (cs:=#[.string (⟨#[112]⟩:ByteArray),.slice Ao25 y855.length co25,.int .i64 0,.slice Ao39 y862.length co39]) ?_ 3 _ rfl;refine aB_ ?_;exact BK858.out) hb);have n8_:=aK_ (zAH (aQ_ HB.out GE853.out GE854.out GE858.out) hb);clear HO_12;clear HO_859001;clear HO_859003;clear HO872;clear BK853;clear BK854;clear BK858;clear HB;have HO_12:=n0_;have HO_859001:=n1_;have HO_859003:=n2_;have HO872:=n3_;have HO875:=n4_;have BK853:=n5_;have BK854:=n6_;have BK858:=n7_;have HB:=n8_;clear n0_ n1_ n2_ n3_ n4_ n5_ n6_ n7_ n8_;(try clear hb);(try clear hb2);(try clear hk);(try clear hi);(try clear ho0)))
  repeat (go_quiet (first|((with_reducible refine zAO (N:=116) rfl ?_);(try (refine zAP (by rfl) ?_;dsimp only));refine Kd.N_lit k33 _ 33 ?hg (N':=116) ?hd (xs:=([(⟨x854000_6,(wrap64 (Int.tmod (IntKind.u64.wrap (a0)) 4)),0,0,([]:List (S45)),0⟩:S33),(⟨2,1,0,0,([]:List (S45)),0⟩:S33),(⟨6,0,0,0,([]:List (S45)),0⟩:S33)]:List (S33))) (inner:=[.int .i64 x854000_6,.int .i64 (wrap64 (Int.tmod (IntKind.u64.wrap (a0)) 4)),.int .i64 0,.int .i64 0,.slice none 0 0,.int .i64 0,.int .i64 2,.int .i64 1,.int .i64 0,.int .i64 0,.slice none 0 0,.int .i64 0,.int .i64 6,.int .i64 0,.int .i64 0,.int .i64 0,.slice none 0 0,.int .i64 0]) (ok:=(fun k_=>some k_≠(v866:Value).ownBlock∧some k_≠(.slice Ao25 y855.length co25:Value).ownBlock∧some k_≠(.slice Ao39 y862.length co39:Value).ownBlock∧k_≠gb853∧k_≠gb854∧k_≠gb858)) (okp:=(fun k_=>some k_≠(v866:Value).ownBlock∧some k_≠(.slice Ao25 y855.length co25:Value).ownBlock∧some k_≠(.slice Ao39 y862.length co39:Value).ownBlock∧k_≠gb853∧k_≠gb854∧k_≠gb858)) ?hr ?hp (fun _ hk=>hk) ((show ∀ k_,wc.heap.size≤k_→(fun k_=>some k_≠(v866:Value).ownBlock∧some k_≠(.slice Ao25 y855.length co25:Value).ownBlock∧some k_≠(.slice Ao39 y862.length co39:Value).ownBlock∧k_≠gb853∧k_≠gb854∧k_≠gb858) k_ from fun k_ hk=>⟨Kd.fresh' (Kd.R_lt (aR_ HO_12.out)) k_ hk,Kd.fresh' (Kd.R_lt (aR_ HO_859001.out)) k_ hk,Kd.fresh' (Kd.N_lt (aN_ HO_859003.out)) k_ hk,Kd.freshB (g:=gb853) (o:=.cells #[.int .i64 x854000_6,.int .i64 (wrap64 (Int.tmod (IntKind.u64.wrap (a0)) 4)),.int .i64 0,.int .i64 0,.slice none 0 0,.int .i64 0] 33 (0,0)) (aB_ BK853.out) k_ hk,Kd.freshB (g:=gb854) (o:=.cells #[.int .i64 x855000_16,.int .i64 (wrap64 (Int.tmod (IntKind.u64.wrap (a1)) 4)),.int .i64 0,.int .i64 0,.slice none 0 0,.int .i64 0] 33 (0,0)) (aB_ BK854.out) k_ hk,Kd.freshB (g:=gb858) (o:=.cells #[.string (⟨#[112]⟩:ByteArray),.slice Ao25 y855.length co25,.int .i64 0,.slice Ao39 y862.length co39] 25 (0,0)) (aB_ BK858.out) k_ hk⟩) _ (Nat.le_refl _)) (Below.refl _ _) (Nat.le_refl _) (by simp) ?_;(case hd=>rfl);(case hg=>rfl);(case hr=>first|(go_simp;done)|(go_simp;rfl));(case hp=>exact (Reps.c6 (show Kd.FK k33 _ _ (⟨x854000_6,(wrap64 (Int.tmod (IntKind.u64.wrap (a0)) 4)),0,0,([]:List (S45)),0⟩:S33) [.int .i64 x854000_6,.int .i64 (wrap64 (Int.tmod (IntKind.u64.wrap (a0)) 4)),.int .i64 0,.int .i64 0,.slice none 0 0,.int .i64 0] from (k33_mkF _ _ (⟨x854000_6,(wrap64 (Int.tmod (IntKind.u64.wrap (a0)) 4)),0,0,([]:List (S45)),0⟩:S33) (Nat.le_refl _) (Kd.F_nil _ _ _))) (Reps.c6 (show Kd.FK k33 _ _ (⟨2,1,0,0,([]:List (S45)),0⟩:S33) [.int .i64 2,.int .i64 1,.int .i64 0,.int .i64 0,.slice none 0 0,.int .i64 0] from (k33_mkF _ _ (⟨2,1,0,0,([]:List (S45)),0⟩:S33) (Nat.le_refl _) (Kd.F_nil _ _ _))) (Reps.c6 (show Kd.FK k33 _ _ (⟨6,0,0,0,([]:List (S45)),0⟩:S33) [.int .i64 6,.int .i64 0,.int .i64 0,.int .i64 0,.slice none 0 0,.int .i64 0] from (k33_mkF _ _ (⟨6,0,0,0,([]:List (S45)),0⟩:S33) (Nat.le_refl _) (Kd.F_nil _ _ _))) (Reps.none _ _)))));intro v871 w61 ho62 hb hg_ hnew_;clear hg_ hnew_;(first|rw [← Ny870.out] at ho62|(simp only [Int.reduceToNat] at ho62;rw [← Ny870.out] at ho62));have n0_:=aK_ (Kd.R_below (aR_ HO_12.out) hb);have n1_:=aK_ (Kd.R_below (aR_ HO_859001.out) hb);have n2_:=aK_ (Kd.N_elder' (aN_ HO_859003.out) (Kd.N_base ho62) hb);have n3_:=aK_ (Kd.N_lower ho62 (zAD (aQ_ HB.out GE853.out GE854.out GE858.out)));have n4_:=aK_ (zAI (g:=gb853) (o:=.cells #[.int .i64 x854000_6,.int .i64 (wrap64 (Int.tmod (IntKind.u64.wrap (a0)) 4)),.int .i64 0,.int .i64 0,.slice none 0 0,.int .i64 0] 33 (0,0)) (aB_ BK853.out) hb);have n5_:=aK_ (zAI (g:=gb854) (o:=.cells #[.int .i64 x855000_16,.int .i64 (wrap64 (Int.tmod (IntKind.u64.wrap (a1)) 4)),.int .i64 0,.int .i64 0,.slice none 0 0,.int .i64 0] 33 (0,0)) (aB_ BK854.out) hb);have n6_:=aK_ (zAI (g:=gb858) (o:=.cells #[.string (⟨#[112]⟩:ByteArray),.slice Ao25 y855.length co25,.int .i64 0,.slice Ao39 y862.length co39] 25 (0,0)) (aB_ BK858.out) hb);have n7_:=aK_ (zAH (aQ_ HB.out GE853.out GE854.out GE858.out) hb);clear HO_12;clear HO_859001;clear HO_859003;clear BK853;clear BK854;clear BK858;clear HB;have HO_12:=n0_;have HO_859001:=n1_;have HO_859003:=n2_;have HO872:=n3_;have BK853:=n4_;have BK854:=n5_;have BK858:=n6_;have HB:=n7_;clear n0_ n1_ n2_ n3_ n4_ n5_ n6_ n7_;clear hb ho62;obtain ⟨Ao63,co63,eo63⟩:=Kd.N_slice HO872.out;subst eo63;have hnb64:=NB858_854.out;have hnc64:=NB854_858.out;have hcz65_0:w61.cell? ⟨gb858,0,none⟩=some (.string (⟨#[112]⟩:ByteArray)):=(zAB BK858.out 0).trans rfl;have hcz65_1:w61.cell? ⟨gb858,1,none⟩=some (.slice Ao25 y855.length co25):=(zAB BK858.out 1).trans rfl;have hcz65_2:w61.cell? ⟨gb858,2,none⟩=some (.int .i64 0):=(zAB BK858.out 2).trans rfl;have hcz65_3:w61.cell? ⟨gb858,3,none⟩=some (.slice Ao39 y862.length co39):=(zAB BK858.out 3).trans rfl;have hfz65_0:=zAA BK858.out 0;have hfz65_1:=zAA BK858.out 1;have hfz65_2:=zAA BK858.out 2;have hfz65_3:=zAA BK858.out 3)|(go_at_call 33;(with_reducible refine (zAG.calls kj21 (⟨#[112]⟩:ByteArray) _ _ y855 0 _ _ y870 t873 t876 t877 _ ?side1 ?side2 ?side3 ?side4 ?side5 A56.out).mono ?_);(case side1=>(first|(with_reducible exact hG)|((repeat (with_reducible first|exact hG|apply GW.drewN|apply GW.drew|apply GW.alloc));done)|exact GW.below hG (aQ_ HB.out GE853.out GE854.out GE858.out)));(case side2=>refine (Kd.R_reads' (e:=47) (base:=w.heap.size) (ok:=fun k_=>True) (n:=y855.length) (c:=co25) ?_).2.2;exact (by refine aR_ ?_;exact (Kd.R_mono (Kd.R_far (p:=⟨gb858,3,none⟩) (Kd.R_types HO_859001.out BK858.out (by decide)) (fun _ hk=>hk.2) (.slice Ao63 y870.length co63)) (fun _ h_=>h_.1))));(case side3=>exact (Kd.R_reads' HO_859001.out).2.1);(case side4=>refine (Kd.N_reads' (e:=33) (base:=w.heap.size) (ok:=fun k_=>(some k_≠(v866:Value).ownBlock∧(some k_≠(.slice Ao25 y855.length co25:Value).ownBlock∧(some k_≠(.slice Ao39 y862.length co39:Value).ownBlock∧(k_≠gb853∧(k_≠gb854∧k_≠gb858)))))) (n:=y870.length) (c:=co63) ?_).2.2;exact (by refine aN_ ?_;exact (Kd.N_mono (Kd.N_far (p:=⟨gb858,3,none⟩) (Kd.N_mono HO872.out (fun k_ hk=>(⟨hk,hk.2.2.2.2.2⟩:_∧k_≠gb858))) (fun _ hk=>hk.2) (.slice Ao63 y870.length co63)) (fun _ h_=>h_.1))));(case side5=>exact (Kd.N_reads' HO872.out).2.1);rintro e w66 ⟨v874,rfl,ho0,hb⟩;have n0_:=aK_ (Kd.R_elder' (by refine aR_ ?_;exact (Kd.R_mono (Kd.R_far (p:=⟨gb858,3,none⟩) (Kd.R_types HO_12.out BK858.out (by decide)) (fun _ hk=>hk.2) (.slice Ao63 y870.length co63)) (fun _ h_=>h_.1))) (Kd.R_base ho0) hb);have n1_:=aK_ (Kd.R_below (by refine aR_ ?_;exact (Kd.R_mono (Kd.R_far (p:=⟨gb858,3,none⟩) (Kd.R_types HO_859001.out BK858.out (by decide)) (fun _ hk=>hk.2) (.slice Ao63 y870.length co63)) (fun _ h_=>h_.1))) hb);have n2_:=aK_ (Kd.N_elder' (by refine aN_ ?_;exact (Kd.N_mono (Kd.N_far (p:=⟨gb858,3,none⟩) (Kd.N_mono HO_859003.out (fun k_ hk=>(⟨hk,hk.1.2.2.2.2⟩:_∧k_≠gb858))) (fun _ hk=>hk.2) (.slice Ao63 y870.length co63)) (fun _ h_=>h_.1))) (Kd.R_base ho0) hb);have n3_:=aK_ (Kd.N_elder' (by refine aN_ ?_;exact (Kd.N_mono (Kd.N_far (p:=⟨gb858,3,none⟩) (Kd.N_mono HO872.out (fun k_ hk=>(⟨hk,hk.2.2.2.2.2⟩:_∧k_≠gb858))) (fun _ hk=>hk.2) (.slice Ao63 y870.length co63)) (fun _ h_=>h_.1))) (Kd.R_base ho0) hb);have n4_:=aK_ (Kd.R_lower (Kd.R_new' ho0 (Kd.R_lt (by refine aR_ ?_;exact (Kd.R_mono (Kd.R_far (p:=⟨gb858,3,none⟩) (Kd.R_types HO_12.out BK858.out (by decide)) (fun _ hk=>hk.2) (.slice Ao63 y870.length co63)) (fun _ h_=>h_.1))))) (zAD (aQ_ HB.out GE853.out GE854.out GE858.out)));have n5_:=aK_ (zAI (g:=gb853) (o:=.cells #[.int .i64 x854000_6,.int .i64 (wrap64 (Int.tmod (IntKind.u64.wrap (a0)) 4)),.int .i64 0,.int .i64 0,.slice none 0 0,.int .i64 0] 33 (0,0)) (by refine aB_ ?_;refine zAV ?_ NB853_858.out _;refine aB_ ?_;exact BK853.out) hb);have n6_:=aK_ (zAI (g:=gb854) (o:=.cells #[.int .i64 x855000_16,.int .i64 (wrap64 (Int.tmod (IntKind.u64.wrap (a1)) 4)),.int .i64 0,.int .i64 0,.slice none 0 0,.int .i64 0] 33 (0,0)) (by refine aB_ ?_;refine zAV ?_ NB854_858.out _;refine aB_ ?_;exact BK854.out) hb);have n7_:=aK_ (zAI (g:=gb858) (o:=.cells #[.string (⟨#[112]⟩:ByteArray),.slice Ao25 y855.length co25,.int .i64 0,.slice Ao63 y870.length co63] 25 (0,0)) (by refine aB_ ?_;refine zAN (cs:=#[.string (⟨#[112]⟩:ByteArray),.slice Ao25 y855.length co25,.int .i64 0,.slice Ao39 y862.length co39]) ?_ 3 _ rfl;refine aB_ ?_;exact BK858.out) hb);have n8_:=aK_ (zAH (aQ_ HB.out GE853.out GE854.out GE858.out) hb);clear HO_12;clear HO_859001;clear HO_859003;clear HO872;clear BK853;clear BK854;clear BK858;clear HB;have HO_12:=n0_;have HO_859001:=n1_;have HO_859003:=n2_;have HO872:=n3_;have HO875:=n4_;have BK853:=n5_;have BK854:=n6_;have BK858:=n7_;have HB:=n8_;clear n0_ n1_ n2_ n3_ n4_ n5_ n6_ n7_ n8_;(try clear hb);(try clear hb2);(try clear hk);(try clear hi);(try clear ho0)));try go_wp2_with (first|((with_reducible refine zAO (N:=116) rfl ?_);(try (refine zAP (by rfl) ?_;dsimp only));refine Kd.N_lit k33 _ 33 ?hg (N':=116) ?hd (xs:=([(⟨x854000_6,(wrap64 (Int.tmod (IntKind.u64.wrap (a0)) 4)),0,0,([]:List (S45)),0⟩:S33),(⟨2,1,0,0,([]:List (S45)),0⟩:S33),(⟨6,0,0,0,([]:List (S45)),0⟩:S33)]:List (S33))) (inner:=[.int .i64 x854000_6,.int .i64 (wrap64 (Int.tmod (IntKind.u64.wrap (a0)) 4)),.int .i64 0,.int .i64 0,.slice none 0 0,.int .i64 0,.int .i64 2,.int .i64 1,.int .i64 0,.int .i64 0,.slice none 0 0,.int .i64 0,.int .i64 6,.int .i64 0,.int .i64 0,.int .i64 0,.slice none 0 0,.int .i64 0]) (ok:=(fun k_=>some k_≠(v866:Value).ownBlock∧some k_≠(.slice Ao25 y855.length co25:Value).ownBlock∧some k_≠(.slice Ao39 y862.length co39:Value).ownBlock∧k_≠gb853∧k_≠gb854∧k_≠gb858)) (okp:=(fun k_=>some k_≠(v866:Value).ownBlock∧some k_≠(.slice Ao25 y855.length co25:Value).ownBlock∧some k_≠(.slice Ao39 y862.length co39:Value).ownBlock∧k_≠gb853∧k_≠gb854∧k_≠gb858)) ?hr ?hp (fun _ hk=>hk) ((show ∀ k_,wc.heap.size≤k_→(fun k_=>some k_≠(v866:Value).ownBlock∧some k_≠(.slice Ao25 y855.length co25:Value).ownBlock∧some k_≠(.slice Ao39 y862.length co39:Value).ownBlock∧k_≠gb853∧k_≠gb854∧k_≠gb858) k_ from fun k_ hk=>⟨Kd.fresh' (Kd.R_lt (aR_ HO_12.out)) k_ hk,Kd.fresh' (Kd.R_lt (aR_ HO_859001.out)) k_ hk,Kd.fresh' (Kd.N_lt (aN_ HO_859003.out)) k_ hk,Kd.freshB (g:=gb853) (o:=.cells #[.int .i64 x854000_6,.int .i64 (wrap64 (Int.tmod (IntKind.u64.wrap (a0)) 4)),.int .i64 0,.int .i64 0,.slice none 0 0,.int .i64 0] 33 (0,0)) (aB_ BK853.out) k_ hk,Kd.freshB (g:=gb854) (o:=.cells #[.int .i64 x855000_16,.int .i64 (wrap64 (Int.tmod (IntKind.u64.wrap (a1)) 4)),.int .i64 0,.int .i64 0,.slice none 0 0,.int .i64 0] 33 (0,0)) (aB_ BK854.out) k_ hk,Kd.freshB (g:=gb858) (o:=.cells #[.string (⟨#[112]⟩:ByteArray),.slice Ao25 y855.length co25,.int .i64 0,.slice Ao39 y862.length co39] 25 (0,0)) (aB_ BK858.out) k_ hk⟩) _ (Nat.le_refl _)) (Below.refl _ _) (Nat.le_refl _) (by simp) ?_;(case hd=>rfl);(case hg=>rfl);(case hr=>first|(go_simp;done)|(go_simp;rfl));(case hp=>exact (Reps.c6 (show Kd.FK k33 _ _ (⟨x854000_6,(wrap64 (Int.tmod (IntKind.u64.wrap (a0)) 4)),0,0,([]:List (S45)),0⟩:S33) [.int .i64 x854000_6,.int .i64 (wrap64 (Int.tmod (IntKind.u64.wrap (a0)) 4)),.int .i64 0,.int .i64 0,.slice none 0 0,.int .i64 0] from (k33_mkF _ _ (⟨x854000_6,(wrap64 (Int.tmod (IntKind.u64.wrap (a0)) 4)),0,0,([]:List (S45)),0⟩:S33) (Nat.le_refl _) (Kd.F_nil _ _ _))) (Reps.c6 (show Kd.FK k33 _ _ (⟨2,1,0,0,([]:List (S45)),0⟩:S33) [.int .i64 2,.int .i64 1,.int .i64 0,.int .i64 0,.slice none 0 0,.int .i64 0] from (k33_mkF _ _ (⟨2,1,0,0,([]:List (S45)),0⟩:S33) (Nat.le_refl _) (Kd.F_nil _ _ _))) (Reps.c6 (show Kd.FK k33 _ _ (⟨6,0,0,0,([]:List (S45)),0⟩:S33) [.int .i64 6,.int .i64 0,.int .i64 0,.int .i64 0,.slice none 0 0,.int .i64 0] from (k33_mkF _ _ (⟨6,0,0,0,([]:List (S45)),0⟩:S33) (Nat.le_refl _) (Kd.F_nil _ _ _))) (Reps.none _ _)))));intro v871 w61 ho62 hb hg_ hnew_;clear hg_ hnew_;(first|rw [← Ny870.out] at ho62|(simp only [Int.reduceToNat] at ho62;rw [← Ny870.out] at ho62));have n0_:=aK_ (Kd.R_below (aR_ HO_12.out) hb);have n1_:=aK_ (Kd.R_below (aR_ HO_859001.out) hb);have n2_:=aK_ (Kd.N_elder' (aN_ HO_859003.out) (Kd.N_base ho62) hb);have n3_:=aK_ (Kd.N_lower ho62 (zAD (aQ_ HB.out GE853.out GE854.out GE858.out)));have n4_:=aK_ (zAI (g:=gb853) (o:=.cells #[.int .i64 x854000_6,.int .i64 (wrap64 (Int.tmod (IntKind.u64.wrap (a0)) 4)),.int .i64 0,.int .i64 0,.slice none 0 0,.int .i64 0] 33 (0,0)) (aB_ BK853.out) hb);have n5_:=aK_ (zAI (g:=gb854) (o:=.cells #[.int .i64 x855000_16,.int .i64 (wrap64 (Int.tmod (IntKind.u64.wrap (a1)) 4)),.int .i64 0,.int .i64 0,.slice none 0 0,.int .i64 0] 33 (0,0)) (aB_ BK854.out) hb);have n6_:=aK_ (zAI (g:=gb858) (o:=.cells #[.string (⟨#[112]⟩:ByteArray),.slice Ao25 y855.length co25,.int .i64 0,.slice Ao39 y862.length co39] 25 (0,0)) (aB_ BK858.out) hb);have n7_:=aK_ (zAH (aQ_ HB.out GE853.out GE854.out GE858.out) hb);clear HO_12;clear HO_859001;clear HO_859003;clear BK853;clear BK854;clear BK858;clear HB;have HO_12:=n0_;have HO_859001:=n1_;have HO_859003:=n2_;have HO872:=n3_;have BK853:=n4_;have BK854:=n5_;have BK858:=n6_;have HB:=n7_;clear n0_ n1_ n2_ n3_ n4_ n5_ n6_ n7_;clear hb ho62;obtain ⟨Ao63,co63,eo63⟩:=Kd.N_slice HO872.out;subst eo63;have hnb64:=NB858_854.out;have hnc64:=NB854_858.out;have hcz65_0:w61.cell? ⟨gb858,0,none⟩=some (.string (⟨#[112]⟩:ByteArray)):=(zAB BK858.out 0).trans rfl;have hcz65_1:w61.cell? ⟨gb858,1,none⟩=some (.slice Ao25 y855.length co25):=(zAB BK858.out 1).trans rfl;have hcz65_2:w61.cell? ⟨gb858,2,none⟩=some (.int .i64 0):=(zAB BK858.out 2).trans rfl;have hcz65_3:w61.cell? ⟨gb858,3,none⟩=some (.slice Ao39 y862.length co39):=(zAB BK858.out 3).trans rfl;have hfz65_0:=zAA BK858.out 0;have hfz65_1:=zAA BK858.out 1;have hfz65_2:=zAA BK858.out 2;have hfz65_3:=zAA BK858.out 3)|(go_at_call 33;(with_reducible refine (zAG.calls kj21 (⟨#[112]⟩:ByteArray) _ _ y855 0 _ _ y870 t873 t876 t877 _ ?side1 ?side2 ?side3 ?side4 ?side5 A56.out).mono ?_);(case side1=>(first|(with_reducible exact hG)|((repeat (with_reducible first|exact hG|apply GW.drewN|apply GW.drew|apply GW.alloc));done)|exact GW.below hG (aQ_ HB.out GE853.out GE854.out GE858.out)));(case side2=>refine (Kd.R_reads' (e:=47) (base:=w.heap.size) (ok:=fun k_=>True) (n:=y855.length) (c:=co25) ?_).2.2;exact (by refine aR_ ?_;exact (Kd.R_mono (Kd.R_far (p:=⟨gb858,3,none⟩) (Kd.R_types HO_859001.out BK858.out (by decide)) (fun _ hk=>hk.2) (.slice Ao63 y870.length co63)) (fun _ h_=>h_.1))));(case side3=>exact (Kd.R_reads' HO_859001.out).2.1);(case side4=>refine (Kd.N_reads' (e:=33) (base:=w.heap.size) (ok:=fun k_=>(some k_≠(v866:Value).ownBlock∧(some k_≠(.slice Ao25 y855.length co25:Value).ownBlock∧(some k_≠(.slice Ao39 y862.length co39:Value).ownBlock∧(k_≠gb853∧(k_≠gb854∧k_≠gb858)))))) (n:=y870.length) (c:=co63) ?_).2.2;exact (by refine aN_ ?_;exact (Kd.N_mono (Kd.N_far (p:=⟨gb858,3,none⟩) (Kd.N_mono HO872.out (fun k_ hk=>(⟨hk,hk.2.2.2.2.2⟩:_∧k_≠gb858))) (fun _ hk=>hk.2) (.slice Ao63 y870.length co63)) (fun _ h_=>h_.1))));(case side5=>exact (Kd.N_reads' HO872.out).2.1);rintro e w66 ⟨v874,rfl,ho0,hb⟩;have n0_:=aK_ (Kd.R_elder' (by refine aR_ ?_;exact (Kd.R_mono (Kd.R_far (p:=⟨gb858,3,none⟩) (Kd.R_types HO_12.out BK858.out (by decide)) (fun _ hk=>hk.2) (.slice Ao63 y870.length co63)) (fun _ h_=>h_.1))) (Kd.R_base ho0) hb);have n1_:=aK_ (Kd.R_below (by refine aR_ ?_;exact (Kd.R_mono (Kd.R_far (p:=⟨gb858,3,none⟩) (Kd.R_types HO_859001.out BK858.out (by decide)) (fun _ hk=>hk.2) (.slice Ao63 y870.length co63)) (fun _ h_=>h_.1))) hb);have n2_:=aK_ (Kd.N_elder' (by refine aN_ ?_;exact (Kd.N_mono (Kd.N_far (p:=⟨gb858,3,none⟩) (Kd.N_mono HO_859003.out (fun k_ hk=>(⟨hk,hk.1.2.2.2.2⟩:_∧k_≠gb858))) (fun _ hk=>hk.2) (.slice Ao63 y870.length co63)) (fun _ h_=>h_.1))) (Kd.R_base ho0) hb);have n3_:=aK_ (Kd.N_elder' (by refine aN_ ?_;exact (Kd.N_mono (Kd.N_far (p:=⟨gb858,3,none⟩) (Kd.N_mono HO872.out (fun k_ hk=>(⟨hk,hk.2.2.2.2.2⟩:_∧k_≠gb858))) (fun _ hk=>hk.2) (.slice Ao63 y870.length co63)) (fun _ h_=>h_.1))) (Kd.R_base ho0) hb);have n4_:=aK_ (Kd.R_lower (Kd.R_new' ho0 (Kd.R_lt (by refine aR_ ?_;exact (Kd.R_mono (Kd.R_far (p:=⟨gb858,3,none⟩) (Kd.R_types HO_12.out BK858.out (by decide)) (fun _ hk=>hk.2) (.slice Ao63 y870.length co63)) (fun _ h_=>h_.1))))) (zAD (aQ_ HB.out GE853.out GE854.out GE858.out)));have n5_:=aK_ (zAI (g:=gb853) (o:=.cells #[.int .i64 x854000_6,.int .i64 (wrap64 (Int.tmod (IntKind.u64.wrap (a0)) 4)),.int .i64 0,.int .i64 0,.slice none 0 0,.int .i64 0] 33 (0,0)) (by refine aB_ ?_;refine zAV ?_ NB853_858.out _;refine aB_ ?_;exact BK853.out) hb);have n6_:=aK_ (zAI (g:=gb854) (o:=.cells #[.int .i64 x855000_16,.int .i64 (wrap64 (Int.tmod (IntKind.u64.wrap (a1)) 4)),.int .i64 0,.int .i64 0,.slice none 0 0,.int .i64 0] 33 (0,0)) (by refine aB_ ?_;refine zAV ?_ NB854_858.out _;refine aB_ ?_;exact BK854.out) hb);have n7_:=aK_ (zAI (g:=gb858) (o:=.cells #[.string (⟨#[112]⟩:ByteArray),.slice Ao25 y855.length co25,.int .i64 0,.slice Ao63 y870.length co63] 25 (0,0)) (by refine aB_ ?_;refine zAN (cs:=#[.string (⟨#[112]⟩:ByteArray),.slice Ao25 y855.length co25,.int .i64 0,.slice Ao39 y862.length co39]) ?_ 3 _ rfl;refine aB_ ?_;exact BK858.out) hb);have n8_:=aK_ (zAH (aQ_ HB.out GE853.out GE854.out GE858.out) hb);clear HO_12;clear HO_859001;clear HO_859003;clear HO872;clear BK853;clear BK854;clear BK858;clear HB;have HO_12:=n0_;have HO_859001:=n1_;have HO_859003:=n2_;have HO872:=n3_;have HO875:=n4_;have BK853:=n5_;have BK854:=n6_;have BK858:=n7_;have HB:=n8_;clear n0_ n1_ n2_ n3_ n4_ n5_ n6_ n7_ n8_;(try clear hb);(try clear hb2);(try clear hk);(try clear hi);(try clear ho0))))
  go_ret
  exact ⟨by first|rfl|(simp [zAK,zAL] <;> rfl)|(simp [*,zAK,zAL] <;> rfl),aQ_ HB.out GE853.out GE854.out GE858.out⟩
 replace c53:=Bool.eq_false_iff.mpr c53
 subst c53
 have H1:(if t869=0 then (if (t865.length:Int)=4 then (if 0<(t865.length:Int) then (if 1<(t865.length:Int) then (if (rd t865 0)=(rd t865 1) then (if 2<(t865.length:Int) then (if (rd t865 2)=(rd t865 0) then (if 3<(t865.length:Int) then (if (rd t865 3)=1 then (if (rd t865 0)=(wrap64 ((wrap64 ((wrap64 (2 * (wrap64 (Int.tmod (IntKind.u64.wrap (a0)) 4))))+x854000_6)) - 1)) then ((zAG.f kj21 (⟨#[112]⟩:ByteArray) y855 0 (([(⟨x854000_6,(wrap64 (Int.tmod (IntKind.u64.wrap (a0)) 4)),0,0,([]:List (S45)),0⟩:S33),(⟨2,1,0,0,([]:List (S45)),0⟩:S33),(⟨6,0,0,0,([]:List (S45)),0⟩:S33)]:List (S33)))).bind fun bt887=>(if bt887.2.2=80 then (some (bt887.2.1 == 2)) else (some false))) else (some false)) else (some false)) else (none)) else (some false)) else (none)) else (some false)) else (none)) else (none)) else (some false)) else (some false))=some r:=by rw [if_neg (show ¬ (false=true) by decide)] at H;exact H
 clear H
 have H:=H1
 clear H1
 by_cases c76:t869=0
 rotate_left
 ·rw [if_neg c76] at H
  have c76b0:(t869 == 0)=false:=beq_eq_false_iff_ne.mpr c76
  have c76b1:(t869 != 0)=true:=bne_iff_ne.mpr c76
  obtain rfl:=Option.some.inj H
  go_wp2
  repeat (go_quiet (fail);try go_wp2)
  go_ret
  exact ⟨by first|rfl|(simp [zAK,zAL] <;> rfl)|(simp [*,zAK,zAL] <;> rfl),aQ_ HB.out GE853.out GE854.out GE858.out⟩
 rw [if_pos c76] at H
 have c76b0:(t869 == 0)=true:=beq_iff_eq.mpr c76
 have c76b1:(t869 != 0)=false:=bne_eq_false_iff_eq.mpr c76
 clear c76
 by_cases c77:(t865.length:Int)=4
 rotate_left
 ·rw [if_neg c77] at H
  have c77b0:((t865.length:Int) == 4)=false:=beq_eq_false_iff_ne.mpr c77
  have c77b1:((t865.length:Int) != 4)=true:=bne_iff_ne.mpr c77
  obtain rfl:=Option.some.inj H
  obtain ⟨Ao115,co115,eo115⟩:=Kd.R_slice HO_12.out
  subst eo115
  go_wp2
  repeat (go_quiet (fail);try go_wp2)
  go_ret
  exact ⟨by first|rfl|(simp [zAK,zAL] <;> rfl)|(simp [*,zAK,zAL] <;> rfl),aQ_ HB.out GE853.out GE854.out GE858.out⟩
 rw [if_pos c77] at H
 have c77b0:((t865.length:Int) == 4)=true:=beq_iff_eq.mpr c77
 have c77b1:((t865.length:Int) != 4)=false:=bne_eq_false_iff_eq.mpr c77
 clear c77
 have c78:=yes_ H
 rw [if_pos c78] at H
 have c78b0:decide (0<(t865.length:Int))=true:=decide_eq_true c78
 have c78b1:decide (0<t865.length)=true:=decide_eq_true (by omega)
 clear c78
 have c79:=yes_ H
 rw [if_pos c79] at H
 have c79b0:decide (1<(t865.length:Int))=true:=decide_eq_true c79
 have c79b1:decide (1<t865.length)=true:=decide_eq_true (by omega)
 clear c79
 by_cases c80:(rd t865 0)=(rd t865 1)
 rotate_left
 ·rw [if_neg c80] at H
  have c80b0:((rd t865 0) == (rd t865 1))=false:=beq_eq_false_iff_ne.mpr c80
  have c80b1:((rd t865 0) != (rd t865 1))=true:=bne_iff_ne.mpr c80
  obtain rfl:=Option.some.inj H
  obtain ⟨Ao114,co114,eo114⟩:=Kd.R_slice HO_12.out
  subst eo114
  have p878:0≤(0:Int):=(by omega)
  have q878:0<(t865.length:Int):=aD_
  obtain ⟨ad878,e878,hx878_0⟩:=Kd.at_int (Kd.R_reads' HO_12.out).2.2 0 p878 q878
  cases e878
  have qi878:(0<t865.length)=True:=eq_true (by omega)
  (try rw [show ((0:Int)).toNat=0 from rfl] at hx878_0)
  (try rw [Addr.add_zero'] at hx878_0)
  replace p878:=eq_true p878
  replace q878:=eq_true q878
  have p879:0≤(1:Int):=(by omega)
  have q879:1<(t865.length:Int):=aD_
  obtain ⟨ad879,e879,hx879_0⟩:=Kd.at_int (Kd.R_reads' HO_12.out).2.2 1 p879 q879
  obtain rfl:ad878=ad879:=(by injection e879)
  (try simp only [show (1:Int).toNat=1 from rfl,Nat.reduceMul,Nat.reduceEqDiff,Go.Addr.add,↓reduceIte] at hx879_0)
  have qi879:(1<t865.length)=True:=eq_true (by omega)
  (try rw [show ((1:Int)).toNat=1 from rfl] at hx879_0)
  replace p879:=eq_true p879
  replace q879:=eq_true q879
  go_wp2
  repeat (go_quiet (fail);try go_wp2)
  go_ret
  exact ⟨by first|rfl|(simp [zAK,zAL] <;> rfl)|(simp [*,zAK,zAL] <;> rfl),aQ_ HB.out GE853.out GE854.out GE858.out⟩
 rw [if_pos c80] at H
 have c80b0:((rd t865 0) == (rd t865 1))=true:=beq_iff_eq.mpr c80
 have c80b1:((rd t865 0) != (rd t865 1))=false:=bne_eq_false_iff_eq.mpr c80
 clear c80
 have c81:=yes_ H
 rw [if_pos c81] at H
 have c81b0:decide (2<(t865.length:Int))=true:=decide_eq_true c81
 have c81b1:decide (2<t865.length)=true:=decide_eq_true (by omega)
 clear c81
 by_cases c82:(rd t865 2)=(rd t865 0)
 rotate_left
 ·rw [if_neg c82] at H
  have c82b0:((rd t865 2) == (rd t865 0))=false:=beq_eq_false_iff_ne.mpr c82
  have c82b1:((rd t865 2) != (rd t865 0))=true:=bne_iff_ne.mpr c82
  obtain rfl:=Option.some.inj H
  obtain ⟨Ao113,co113,eo113⟩:=Kd.R_slice HO_12.out
  subst eo113
  have p878:0≤(0:Int):=(by omega)
  have q878:0<(t865.length:Int):=aD_
  obtain ⟨ad878,e878,hx878_0⟩:=Kd.at_int (Kd.R_reads' HO_12.out).2.2 0 p878 q878
  cases e878
  have qi878:(0<t865.length)=True:=eq_true (by omega)
  (try rw [show ((0:Int)).toNat=0 from rfl] at hx878_0)
  (try rw [Addr.add_zero'] at hx878_0)
  replace p878:=eq_true p878
  replace q878:=eq_true q878
  have p879:0≤(1:Int):=(by omega)
  have q879:1<(t865.length:Int):=aD_
  obtain ⟨ad879,e879,hx879_0⟩:=Kd.at_int (Kd.R_reads' HO_12.out).2.2 1 p879 q879
  obtain rfl:ad878=ad879:=(by injection e879)
  (try simp only [show (1:Int).toNat=1 from rfl,Nat.reduceMul,Nat.reduceEqDiff,Go.Addr.add,↓reduceIte] at hx879_0)
  have qi879:(1<t865.length)=True:=eq_true (by omega)
  (try rw [show ((1:Int)).toNat=1 from rfl] at hx879_0)
  replace p879:=eq_true p879
  replace q879:=eq_true q879
  have p880:0≤(2:Int):=(by omega)
  have q880:2<(t865.length:Int):=aD_
  obtain ⟨ad880,e880,hx880_0⟩:=Kd.at_int (Kd.R_reads' HO_12.out).2.2 2 p880 q880
  obtain rfl:ad878=ad880:=(by injection e880)
  (try simp only [show (2:Int).toNat=2 from rfl,Nat.reduceMul,Nat.reduceEqDiff,Go.Addr.add,↓reduceIte] at hx880_0)
  have qi880:(2<t865.length)=True:=eq_true (by omega)
  (try rw [show ((2:Int)).toNat=2 from rfl] at hx880_0)
  replace p880:=eq_true p880
  replace q880:=eq_true q880
  have p881:0≤(0:Int):=(by omega)
  have q881:0<(t865.length:Int):=aD_
  obtain ⟨ad881,e881,hx881_0⟩:=Kd.at_int (Kd.R_reads' HO_12.out).2.2 0 p881 q881
  obtain rfl:ad878=ad881:=(by injection e881)
  have qi881:(0<t865.length)=True:=eq_true (by omega)
  (try rw [show ((0:Int)).toNat=0 from rfl] at hx881_0)
  (try rw [Addr.add_zero'] at hx881_0)
  replace p881:=eq_true p881
  replace q881:=eq_true q881
  go_wp2
  repeat (go_quiet (fail);try go_wp2)
  go_ret
  exact ⟨by first|rfl|(simp [zAK,zAL] <;> rfl)|(simp [*,zAK,zAL] <;> rfl),aQ_ HB.out GE853.out GE854.out GE858.out⟩
 rw [if_pos c82] at H
 have c82b0:((rd t865 2) == (rd t865 0))=true:=beq_iff_eq.mpr c82
 have c82b1:((rd t865 2) != (rd t865 0))=false:=bne_eq_false_iff_eq.mpr c82
 clear c82
 have c83:=yes_ H
 rw [if_pos c83] at H
 have c83b0:decide (3<(t865.length:Int))=true:=decide_eq_true c83
 have c83b1:decide (3<t865.length)=true:=decide_eq_true (by omega)
 clear c83
 by_cases c84:(rd t865 3)=1
 rotate_left
 ·rw [if_neg c84] at H
  have c84b0:((rd t865 3) == 1)=false:=beq_eq_false_iff_ne.mpr c84
  have c84b1:((rd t865 3) != 1)=true:=bne_iff_ne.mpr c84
  obtain rfl:=Option.some.inj H
  obtain ⟨Ao112,co112,eo112⟩:=Kd.R_slice HO_12.out
  subst eo112
  have p878:0≤(0:Int):=(by omega)
  have q878:0<(t865.length:Int):=aD_
  obtain ⟨ad878,e878,hx878_0⟩:=Kd.at_int (Kd.R_reads' HO_12.out).2.2 0 p878 q878
  cases e878
  have qi878:(0<t865.length)=True:=eq_true (by omega)
  (try rw [show ((0:Int)).toNat=0 from rfl] at hx878_0)
  (try rw [Addr.add_zero'] at hx878_0)
  replace p878:=eq_true p878
  replace q878:=eq_true q878
  have p879:0≤(1:Int):=(by omega)
  have q879:1<(t865.length:Int):=aD_
  obtain ⟨ad879,e879,hx879_0⟩:=Kd.at_int (Kd.R_reads' HO_12.out).2.2 1 p879 q879
  obtain rfl:ad878=ad879:=(by injection e879)
  (try simp only [show (1:Int).toNat=1 from rfl,Nat.reduceMul,Nat.reduceEqDiff,Go.Addr.add,↓reduceIte] at hx879_0)
  have qi879:(1<t865.length)=True:=eq_true (by omega)
  (try rw [show ((1:Int)).toNat=1 from rfl] at hx879_0)
  replace p879:=eq_true p879
  replace q879:=eq_true q879
  have p880:0≤(2:Int):=(by omega)
  have q880:2<(t865.length:Int):=aD_
  obtain ⟨ad880,e880,hx880_0⟩:=Kd.at_int (Kd.R_reads' HO_12.out).2.2 2 p880 q880
  obtain rfl:ad878=ad880:=(by injection e880)
  (try simp only [show (2:Int).toNat=2 from rfl,Nat.reduceMul,Nat.reduceEqDiff,Go.Addr.add,↓reduceIte] at hx880_0)
  have qi880:(2<t865.length)=True:=eq_true (by omega)
  (try rw [show ((2:Int)).toNat=2 from rfl] at hx880_0)
  replace p880:=eq_true p880
  replace q880:=eq_true q880
  have p881:0≤(0:Int):=(by omega)
  have q881:0<(t865.length:Int):=aD_
  obtain ⟨ad881,e881,hx881_0⟩:=Kd.at_int (Kd.R_reads' HO_12.out).2.2 0 p881 q881
  obtain rfl:ad878=ad881:=(by injection e881)
  have qi881:(0<t865.length)=True:=eq_true (by omega)
  (try rw [show ((0:Int)).toNat=0 from rfl] at hx881_0)
  (try rw [Addr.add_zero'] at hx881_0)
  replace p881:=eq_true p881
  replace q881:=eq_true q881
  have p882:0≤(3:Int):=(by omega)
  have q882:3<(t865.length:Int):=aD_
  obtain ⟨ad882,e882,hx882_0⟩:=Kd.at_int (Kd.R_reads' HO_12.out).2.2 3 p882 q882
  obtain rfl:ad878=ad882:=(by injection e882)
  (try simp only [show (3:Int).toNat=3 from rfl,Nat.reduceMul,Nat.reduceEqDiff,Go.Addr.add,↓reduceIte] at hx882_0)
  have qi882:(3<t865.length)=True:=eq_true (by omega)
  (try rw [show ((3:Int)).toNat=3 from rfl] at hx882_0)
  replace p882:=eq_true p882
  replace q882:=eq_true q882
  go_wp2
  repeat (go_quiet (fail);try go_wp2)
  go_ret
  exact ⟨by first|rfl|(simp [zAK,zAL] <;> rfl)|(simp [*,zAK,zAL] <;> rfl),aQ_ HB.out GE853.out GE854.out GE858.out⟩
 rw [if_pos c84] at H
 have c84b0:((rd t865 3) == 1)=true:=beq_iff_eq.mpr c84
 have c84b1:((rd t865 3) != 1)=false:=bne_eq_false_iff_eq.mpr c84
 clear c84
 by_cases c85:(rd t865 0)=(wrap64 ((wrap64 ((wrap64 (2 * (wrap64 (Int.tmod (IntKind.u64.wrap (a0)) 4))))+x854000_6)) - 1))
 rotate_left
 ·rw [if_neg c85] at H
  have c85b0:((rd t865 0) == (wrap64 ((wrap64 ((wrap64 (2 * (wrap64 (Int.tmod (IntKind.u64.wrap (a0)) 4))))+x854000_6)) - 1)))=false:=beq_eq_false_iff_ne.mpr c85
  have c85b1:((rd t865 0) != (wrap64 ((wrap64 ((wrap64 (2 * (wrap64 (Int.tmod (IntKind.u64.wrap (a0)) 4))))+x854000_6)) - 1)))=true:=bne_iff_ne.mpr c85
  obtain rfl:=Option.some.inj H
  obtain ⟨Ao108,co108,eo108⟩:=Kd.R_slice HO_12.out
  subst eo108
  have p878:0≤(0:Int):=(by omega)
  have q878:0<(t865.length:Int):=aD_
  obtain ⟨ad878,e878,hx878_0⟩:=Kd.at_int (Kd.R_reads' HO_12.out).2.2 0 p878 q878
  cases e878
  have qi878:(0<t865.length)=True:=eq_true (by omega)
  (try rw [show ((0:Int)).toNat=0 from rfl] at hx878_0)
  (try rw [Addr.add_zero'] at hx878_0)
  replace p878:=eq_true p878
  replace q878:=eq_true q878
  have p879:0≤(1:Int):=(by omega)
  have q879:1<(t865.length:Int):=aD_
  obtain ⟨ad879,e879,hx879_0⟩:=Kd.at_int (Kd.R_reads' HO_12.out).2.2 1 p879 q879
  obtain rfl:ad878=ad879:=(by injection e879)
  (try simp only [show (1:Int).toNat=1 from rfl,Nat.reduceMul,Nat.reduceEqDiff,Go.Addr.add,↓reduceIte] at hx879_0)
  have qi879:(1<t865.length)=True:=eq_true (by omega)
  (try rw [show ((1:Int)).toNat=1 from rfl] at hx879_0)
  replace p879:=eq_true p879
  replace q879:=eq_true q879
  have p880:0≤(2:Int):=(by omega)
  have q880:2<(t865.length:Int):=aD_
  obtain ⟨ad880,e880,hx880_0⟩:=Kd.at_int (Kd.R_reads' HO_12.out).2.2 2 p880 q880
  obtain rfl:ad878=ad880:=(by injection e880)
  (try simp only [show (2:Int).toNat=2 from rfl,Nat.reduceMul,Nat.reduceEqDiff,Go.Addr.add,↓reduceIte] at hx880_0)
  have qi880:(2<t865.length)=True:=eq_true (by omega)
  (try rw [show ((2:Int)).toNat=2 from rfl] at hx880_0)
  replace p880:=eq_true p880
  replace q880:=eq_true q880
  have p881:0≤(0:Int):=(by omega)
  have q881:0<(t865.length:Int):=aD_
  obtain ⟨ad881,e881,hx881_0⟩:=Kd.at_int (Kd.R_reads' HO_12.out).2.2 0 p881 q881
  obtain rfl:ad878=ad881:=(by injection e881)
  have qi881:(0<t865.length)=True:=eq_true (by omega)
  (try rw [show ((0:Int)).toNat=0 from rfl] at hx881_0)
  (try rw [Addr.add_zero'] at hx881_0)
  replace p881:=eq_true p881
  replace q881:=eq_true q881
  have p882:0≤(3:Int):=(by omega)
  have q882:3<(t865.length:Int):=aD_
  obtain ⟨ad882,e882,hx882_0⟩:=Kd.at_int (Kd.R_reads' HO_12.out).2.2 3 p882 q882
  obtain rfl:ad878=ad882:=(by injection e882)
  (try simp only [show (3:Int).toNat=3 from rfl,Nat.reduceMul,Nat.reduceEqDiff,Go.Addr.add,↓reduceIte] at hx882_0)
  have qi882:(3<t865.length)=True:=eq_true (by omega)
  (try rw [show ((3:Int)).toNat=3 from rfl] at hx882_0)
  replace p882:=eq_true p882
  replace q882:=eq_true q882
  have p883:0≤(0:Int):=(by omega)
  have q883:0<(t865.length:Int):=aD_
  obtain ⟨ad883,e883,hx883_0⟩:=Kd.at_int (Kd.R_reads' HO_12.out).2.2 0 p883 q883
  obtain rfl:ad878=ad883:=(by injection e883)
  have qi883:(0<t865.length)=True:=eq_true (by omega)
  (try rw [show ((0:Int)).toNat=0 from rfl] at hx883_0)
  (try rw [Addr.add_zero'] at hx883_0)
  replace p883:=eq_true p883
  replace q883:=eq_true q883
  have hnb109:=NB853_854.out
  have hnc109:=NB854_853.out
  have hnb110:=NB853_858.out
  have hnc110:=NB858_853.out
  have hcz111_0:wc.cell? ⟨gb853,0,none⟩=some (.int .i64 x854000_6):=(zAB BK853.out 0).trans rfl
  have hcz111_1:wc.cell? ⟨gb853,1,none⟩=some (.int .i64 (wrap64 (Int.tmod (IntKind.u64.wrap (a0)) 4))):=(zAB BK853.out 1).trans rfl
  have hcz111_2:wc.cell? ⟨gb853,2,none⟩=some (.int .i64 0):=(zAB BK853.out 2).trans rfl
  have hcz111_3:wc.cell? ⟨gb853,3,none⟩=some (.int .i64 0):=(zAB BK853.out 3).trans rfl
  have hcz111_4:wc.cell? ⟨gb853,4,none⟩=some (.slice none 0 0):=(zAB BK853.out 4).trans rfl
  have hcz111_5:wc.cell? ⟨gb853,5,none⟩=some (.int .i64 0):=(zAB BK853.out 5).trans rfl
  have hfz111_0:=zAA BK853.out 0
  have hfz111_1:=zAA BK853.out 1
  have hfz111_2:=zAA BK853.out 2
  have hfz111_3:=zAA BK853.out 3
  have hfz111_4:=zAA BK853.out 4
  have hfz111_5:=zAA BK853.out 5
  go_wp2
  repeat (go_quiet (fail);try go_wp2)
  go_ret
  exact ⟨by first|rfl|(simp [zAK,zAL] <;> rfl)|(simp [*,zAK,zAL] <;> rfl),aQ_ HB.out GE853.out GE854.out GE858.out⟩
 rw [if_pos c85] at H
 have c85b0:((rd t865 0) == (wrap64 ((wrap64 ((wrap64 (2 * (wrap64 (Int.tmod (IntKind.u64.wrap (a0)) 4))))+x854000_6)) - 1)))=true:=beq_iff_eq.mpr c85
 have c85b1:((rd t865 0) != (wrap64 ((wrap64 ((wrap64 (2 * (wrap64 (Int.tmod (IntKind.u64.wrap (a0)) 4))))+x854000_6)) - 1)))=false:=bne_eq_false_iff_eq.mpr c85
 clear c85
 obtain ⟨y884,hy884⟩:∃ y_:List (S33),y_=(([(⟨x854000_6,(wrap64 (Int.tmod (IntKind.u64.wrap (a0)) 4)),0,0,([]:List (S45)),0⟩:S33),(⟨2,1,0,0,([]:List (S45)),0⟩:S33),(⟨6,0,0,0,([]:List (S45)),0⟩:S33)]:List (S33))):=⟨_,rfl⟩
 replace H:((zAG.f kj21 (⟨#[112]⟩:ByteArray) y855 0 y884).bind fun bt887=>(if bt887.2.2=80 then (some (bt887.2.1 == 2)) else (some false)))=some r:=by first|(rw [hy884];with_reducible exact H)|(have H2_:=(Option.bind_some _ _).symm.trans H;rw [hy884];with_reducible exact H2_)|(have H2_:=(Option.bind_some _ _).symm.trans H;with_reducible exact H2_)|with_reducible exact H|(rw [hy884];exact H)|exact H
 have Ny884:=aK_ hy884
 clear hy884
 replace H:=Option.bind_eq_some_iff.mp H
 obtain ⟨⟨t887,t890,t891⟩,A860,H⟩:=H
 replace H:(if t891=80 then (some (t890 == 2)) else (some false))=some r:=H
 have A86:=aK_ A860
 clear A860
 by_cases c87:t891=80
 ·rw [if_pos c87] at H
  have c87b0:(t891 == 80)=true:=beq_iff_eq.mpr c87
  have c87b1:(t891 != 80)=false:=bne_eq_false_iff_eq.mpr c87
  clear c87
  obtain rfl:=Option.some.inj H
  obtain ⟨Ao88,co88,eo88⟩:=Kd.R_slice HO_12.out
  subst eo88
  have p878:0≤(0:Int):=(by omega)
  have q878:0<(t865.length:Int):=aD_
  obtain ⟨ad878,e878,hx878_0⟩:=Kd.at_int (Kd.R_reads' HO_12.out).2.2 0 p878 q878
  cases e878
  have qi878:(0<t865.length)=True:=eq_true (by omega)
  (try rw [show ((0:Int)).toNat=0 from rfl] at hx878_0)
  (try rw [Addr.add_zero'] at hx878_0)
  replace p878:=eq_true p878
  replace q878:=eq_true q878
  have p879:0≤(1:Int):=(by omega)
  have q879:1<(t865.length:Int):=aD_
  obtain ⟨ad879,e879,hx879_0⟩:=Kd.at_int (Kd.R_reads' HO_12.out).2.2 1 p879 q879
  obtain rfl:ad878=ad879:=(by injection e879)
  (try simp only [show (1:Int).toNat=1 from rfl,Nat.reduceMul,Nat.reduceEqDiff,Go.Addr.add,↓reduceIte] at hx879_0)
  have qi879:(1<t865.length)=True:=eq_true (by omega)
  (try rw [show ((1:Int)).toNat=1 from rfl] at hx879_0)
  replace p879:=eq_true p879
  replace q879:=eq_true q879
  have p880:0≤(2:Int):=(by omega)
  have q880:2<(t865.length:Int):=aD_
  obtain ⟨ad880,e880,hx880_0⟩:=Kd.at_int (Kd.R_reads' HO_12.out).2.2 2 p880 q880
  obtain rfl:ad878=ad880:=(by injection e880)
  (try simp only [show (2:Int).toNat=2 from rfl,Nat.reduceMul,Nat.reduceEqDiff,Go.Addr.add,↓reduceIte] at hx880_0)
  have qi880:(2<t865.length)=True:=eq_true (by omega)
  (try rw [show ((2:Int)).toNat=2 from rfl] at hx880_0)
  replace p880:=eq_true p880
  replace q880:=eq_true q880
  have p881:0≤(0:Int):=(by omega)
  have q881:0<(t865.length:Int):=aD_
  obtain ⟨ad881,e881,hx881_0⟩:=Kd.at_int (Kd.R_reads' HO_12.out).2.2 0 p881 q881
  obtain rfl:ad878=ad881:=(by injection e881)
  have qi881:(0<t865.length)=True:=eq_true (by omega)
  (try rw [show ((0:Int)).toNat=0 from rfl] at hx881_0)
  (try rw [Addr.add_zero'] at hx881_0)
  replace p881:=eq_true p881
  replace q881:=eq_true q881
  have p882:0≤(3:Int):=(by omega)
  have q882:3<(t865.length:Int):=aD_
  obtain ⟨ad882,e882,hx882_0⟩:=Kd.at_int (Kd.R_reads' HO_12.out).2.2 3 p882 q882
  obtain rfl:ad878=ad882:=(by injection e882)
  (try simp only [show (3:Int).toNat=3 from rfl,Nat.reduceMul,Nat.reduceEqDiff,Go.Addr.add,↓reduceIte] at hx882_0)
  have qi882:(3<t865.length)=True:=eq_true (by omega)
  (try rw [show ((3:Int)).toNat=3 from rfl] at hx882_0)
  replace p882:=eq_true p882
  replace q882:=eq_true q882
  have p883:0≤(0:Int):=(by omega)
  have q883:0<(t865.length:Int):=aD_
  obtain ⟨ad883,e883,hx883_0⟩:=Kd.at_int (Kd.R_reads' HO_12.out).2.2 0 p883 q883
  obtain rfl:ad878=ad883:=(by injection e883)
  have qi883:(0<t865.length)=True:=eq_true (by omega)
  (try rw [show ((0:Int)).toNat=0 from rfl] at hx883_0)
  (try rw [Addr.add_zero'] at hx883_0)
  replace p883:=eq_true p883
  replace q883:=eq_true q883
  have hnb89:=NB853_854.out
  have hnc89:=NB854_853.out
  have hnb90:=NB853_858.out
  have hnc90:=NB858_853.out
  have hcz91_0:wc.cell? ⟨gb853,0,none⟩=some (.int .i64 x854000_6):=(zAB BK853.out 0).trans rfl
  have hcz91_1:wc.cell? ⟨gb853,1,none⟩=some (.int .i64 (wrap64 (Int.tmod (IntKind.u64.wrap (a0)) 4))):=(zAB BK853.out 1).trans rfl
  have hcz91_2:wc.cell? ⟨gb853,2,none⟩=some (.int .i64 0):=(zAB BK853.out 2).trans rfl
  have hcz91_3:wc.cell? ⟨gb853,3,none⟩=some (.int .i64 0):=(zAB BK853.out 3).trans rfl
  have hcz91_4:wc.cell? ⟨gb853,4,none⟩=some (.slice none 0 0):=(zAB BK853.out 4).trans rfl
  have hcz91_5:wc.cell? ⟨gb853,5,none⟩=some (.int .i64 0):=(zAB BK853.out 5).trans rfl
  have hfz91_0:=zAA BK853.out 0
  have hfz91_1:=zAA BK853.out 1
  have hfz91_2:=zAA BK853.out 2
  have hfz91_3:=zAA BK853.out 3
  have hfz91_4:=zAA BK853.out 4
  have hfz91_5:=zAA BK853.out 5
  go_wp2_with (first|((with_reducible refine zAO (N:=116) rfl ?_);(try (refine zAP (by rfl) ?_;dsimp only));refine Kd.N_lit k33 _ 33 ?hg (N':=116) ?hd (xs:=([(⟨x854000_6,(wrap64 (Int.tmod (IntKind.u64.wrap (a0)) 4)),0,0,([]:List (S45)),0⟩:S33),(⟨2,1,0,0,([]:List (S45)),0⟩:S33),(⟨6,0,0,0,([]:List (S45)),0⟩:S33)]:List (S33))) (inner:=[.int .i64 x854000_6,.int .i64 (wrap64 (Int.tmod (IntKind.u64.wrap (a0)) 4)),.int .i64 0,.int .i64 0,.slice none 0 0,.int .i64 0,.int .i64 2,.int .i64 1,.int .i64 0,.int .i64 0,.slice none 0 0,.int .i64 0,.int .i64 6,.int .i64 0,.int .i64 0,.int .i64 0,.slice none 0 0,.int .i64 0]) (ok:=(fun k_=>some k_≠(.slice (some ad878) t865.length co88:Value).ownBlock∧some k_≠(.slice Ao25 y855.length co25:Value).ownBlock∧some k_≠(.slice Ao39 y862.length co39:Value).ownBlock∧k_≠gb853∧k_≠gb854∧k_≠gb858)) (okp:=(fun k_=>some k_≠(.slice (some ad878) t865.length co88:Value).ownBlock∧some k_≠(.slice Ao25 y855.length co25:Value).ownBlock∧some k_≠(.slice Ao39 y862.length co39:Value).ownBlock∧k_≠gb853∧k_≠gb854∧k_≠gb858)) ?hr ?hp (fun _ hk=>hk) ((show ∀ k_,wc.heap.size≤k_→(fun k_=>some k_≠(.slice (some ad878) t865.length co88:Value).ownBlock∧some k_≠(.slice Ao25 y855.length co25:Value).ownBlock∧some k_≠(.slice Ao39 y862.length co39:Value).ownBlock∧k_≠gb853∧k_≠gb854∧k_≠gb858) k_ from fun k_ hk=>⟨Kd.fresh' (Kd.R_lt (aR_ HO_12.out)) k_ hk,Kd.fresh' (Kd.R_lt (aR_ HO_859001.out)) k_ hk,Kd.fresh' (Kd.N_lt (aN_ HO_859003.out)) k_ hk,Kd.freshB (g:=gb853) (o:=.cells #[.int .i64 x854000_6,.int .i64 (wrap64 (Int.tmod (IntKind.u64.wrap (a0)) 4)),.int .i64 0,.int .i64 0,.slice none 0 0,.int .i64 0] 33 (0,0)) (aB_ BK853.out) k_ hk,Kd.freshB (g:=gb854) (o:=.cells #[.int .i64 x855000_16,.int .i64 (wrap64 (Int.tmod (IntKind.u64.wrap (a1)) 4)),.int .i64 0,.int .i64 0,.slice none 0 0,.int .i64 0] 33 (0,0)) (aB_ BK854.out) k_ hk,Kd.freshB (g:=gb858) (o:=.cells #[.string (⟨#[112]⟩:ByteArray),.slice Ao25 y855.length co25,.int .i64 0,.slice Ao39 y862.length co39] 25 (0,0)) (aB_ BK858.out) k_ hk⟩) _ (Nat.le_refl _)) (Below.refl _ _) (Nat.le_refl _) (by simp) ?_;(case hd=>rfl);(case hg=>rfl);(case hr=>first|(go_simp;done)|(go_simp;rfl));(case hp=>exact (Reps.c6 (show Kd.FK k33 _ _ (⟨x854000_6,(wrap64 (Int.tmod (IntKind.u64.wrap (a0)) 4)),0,0,([]:List (S45)),0⟩:S33) [.int .i64 x854000_6,.int .i64 (wrap64 (Int.tmod (IntKind.u64.wrap (a0)) 4)),.int .i64 0,.int .i64 0,.slice none 0 0,.int .i64 0] from (k33_mkF _ _ (⟨x854000_6,(wrap64 (Int.tmod (IntKind.u64.wrap (a0)) 4)),0,0,([]:List (S45)),0⟩:S33) (Nat.le_refl _) (Kd.F_nil _ _ _))) (Reps.c6 (show Kd.FK k33 _ _ (⟨2,1,0,0,([]:List (S45)),0⟩:S33) [.int .i64 2,.int .i64 1,.int .i64 0,.int .i64 0,.slice none 0 0,.int .i64 0] from (k33_mkF _ _ (⟨2,1,0,0,([]:List (S45)),0⟩:S33) (Nat.le_refl _) (Kd.F_nil _ _ _))) (Reps.c6 (show Kd.FK k33 _ _ (⟨6,0,0,0,([]:List (S45)),0⟩:S33) [.int .i64 6,.int .i64 0,.int .i64 0,.int .i64 0,.slice none 0 0,.int .i64 0] from (k33_mkF _ _ (⟨6,0,0,0,([]:List (S45)),0⟩:S33) (Nat.le_refl _) (Kd.F_nil _ _ _))) (Reps.none _ _)))));intro v885 w92 ho93 hb hg_ hnew_;clear hg_ hnew_;(first|rw [← Ny884.out] at ho93|(simp only [Int.reduceToNat] at ho93;rw [← Ny884.out] at ho93));have n0_:=aK_ (Kd.R_below (aR_ HO_12.out) hb);have n1_:=aK_ (Kd.R_below (aR_ HO_859001.out) hb);have n2_:=aK_ (Kd.N_elder' (aN_ HO_859003.out) (Kd.N_base ho93) hb);have n3_:=aK_ (Kd.N_lower ho93 (zAD (aQ_ HB.out GE853.out GE854.out GE858.out)));have n4_:=aK_ (zAI (g:=gb853) (o:=.cells #[.int .i64 x854000_6,.int .i64 (wrap64 (Int.tmod (IntKind.u64.wrap (a0)) 4)),.int .i64 0,.int .i64 0,.slice none 0 0,.int .i64 0] 33 (0,0)) (aB_ BK853.out) hb);have n5_:=aK_ (zAI (g:=gb854) (o:=.cells #[.int .i64 x855000_16,.int .i64 (wrap64 (Int.tmod (IntKind.u64.wrap (a1)) 4)),.int .i64 0,.int .i64 0,.slice none 0 0,.int .i64 0] 33 (0,0)) (aB_ BK854.out) hb);have n6_:=aK_ (zAI (g:=gb858) (o:=.cells #[.string (⟨#[112]⟩:ByteArray),.slice Ao25 y855.length co25,.int .i64 0,.slice Ao39 y862.length co39] 25 (0,0)) (aB_ BK858.out) hb);have n7_:=aK_ (zAH (aQ_ HB.out GE853.out GE854.out GE858.out) hb);clear HO_12;clear HO_859001;clear HO_859003;clear BK853;clear BK854;clear BK858;clear HB;have HO_12:=n0_;have HO_859001:=n1_;have HO_859003:=n2_;have HO886:=n3_;have BK853:=n4_;have BK854:=n5_;have BK858:=n6_;have HB:=n7_;clear n0_ n1_ n2_ n3_ n4_ n5_ n6_ n7_;clear hb ho93;obtain ⟨Ao94,co94,eo94⟩:=Kd.N_slice HO886.out;subst eo94;have hnb95:=NB858_854.out;have hnc95:=NB854_858.out;have hcz96_0:w92.cell? ⟨gb858,0,none⟩=some (.string (⟨#[112]⟩:ByteArray)):=(zAB BK858.out 0).trans rfl;have hcz96_1:w92.cell? ⟨gb858,1,none⟩=some (.slice Ao25 y855.length co25):=(zAB BK858.out 1).trans rfl;have hcz96_2:w92.cell? ⟨gb858,2,none⟩=some (.int .i64 0):=(zAB BK858.out 2).trans rfl;have hcz96_3:w92.cell? ⟨gb858,3,none⟩=some (.slice Ao39 y862.length co39):=(zAB BK858.out 3).trans rfl;have hfz96_0:=zAA BK858.out 0;have hfz96_1:=zAA BK858.out 1;have hfz96_2:=zAA BK858.out 2;have hfz96_3:=zAA BK858.out 3)|(go_at_call 33;(with_reducible refine (zAG.calls kj21 (⟨#[112]⟩:ByteArray) _ _ y855 0 _ _ y884 t887 t890 t891 _ ?side1 ?side2 ?side3 ?side4 ?side5 A86.out).mono ?_);(case side1=>(first|(with_reducible exact hG)|((repeat (with_reducible first|exact hG|apply GW.drewN|apply GW.drew|apply GW.alloc));done)|exact GW.below hG (aQ_ HB.out GE853.out GE854.out GE858.out)));(case side2=>refine (Kd.R_reads' (e:=47) (base:=w.heap.size) (ok:=fun k_=>True) (n:=y855.length) (c:=co25) ?_).2.2;exact (by refine aR_ ?_;exact (Kd.R_mono (Kd.R_far (p:=⟨gb858,3,none⟩) (Kd.R_types HO_859001.out BK858.out (by decide)) (fun _ hk=>hk.2) (.slice Ao94 y884.length co94)) (fun _ h_=>h_.1))));(case side3=>exact (Kd.R_reads' HO_859001.out).2.1);(case side4=>refine (Kd.N_reads' (e:=33) (base:=w.heap.size) (ok:=fun k_=>(some k_≠(.slice (some ad878) t865.length co88:Value).ownBlock∧(some k_≠(.slice Ao25 y855.length co25:Value).ownBlock∧(some k_≠(.slice Ao39 y862.length co39:Value).ownBlock∧(k_≠gb853∧(k_≠gb854∧k_≠gb858)))))) (n:=y884.length) (c:=co94) ?_).2.2;exact (by refine aN_ ?_;exact (Kd.N_mono (Kd.N_far (p:=⟨gb858,3,none⟩) (Kd.N_mono HO886.out (fun k_ hk=>(⟨hk,hk.2.2.2.2.2⟩:_∧k_≠gb858))) (fun _ hk=>hk.2) (.slice Ao94 y884.length co94)) (fun _ h_=>h_.1))));(case side5=>exact (Kd.N_reads' HO886.out).2.1);rintro e w97 ⟨v888,rfl,ho0,hb⟩;have n0_:=aK_ (Kd.R_elder' (by refine aR_ ?_;exact (Kd.R_mono (Kd.R_far (p:=⟨gb858,3,none⟩) (Kd.R_types HO_12.out BK858.out (by decide)) (fun _ hk=>hk.2) (.slice Ao94 y884.length co94)) (fun _ h_=>h_.1))) (Kd.R_base ho0) hb);have n1_:=aK_ (Kd.R_below (by refine aR_ ?_;exact (Kd.R_mono (Kd.R_far (p:=⟨gb858,3,none⟩) (Kd.R_types HO_859001.out BK858.out (by decide)) (fun _ hk=>hk.2) (.slice Ao94 y884.length co94)) (fun _ h_=>h_.1))) hb);have n2_:=aK_ (Kd.N_elder' (by refine aN_ ?_;exact (Kd.N_mono (Kd.N_far (p:=⟨gb858,3,none⟩) (Kd.N_mono HO_859003.out (fun k_ hk=>(⟨hk,hk.1.2.2.2.2⟩:_∧k_≠gb858))) (fun _ hk=>hk.2) (.slice Ao94 y884.length co94)) (fun _ h_=>h_.1))) (Kd.R_base ho0) hb);have n3_:=aK_ (Kd.N_elder' (by refine aN_ ?_;exact (Kd.N_mono (Kd.N_far (p:=⟨gb858,3,none⟩) (Kd.N_mono HO886.out (fun k_ hk=>(⟨hk,hk.2.2.2.2.2⟩:_∧k_≠gb858))) (fun _ hk=>hk.2) (.slice Ao94 y884.length co94)) (fun _ h_=>h_.1))) (Kd.R_base ho0) hb);have n4_:=aK_ (Kd.R_lower (Kd.R_new' ho0 (Kd.R_lt (by refine aR_ ?_;exact (Kd.R_mono (Kd.R_far (p:=⟨gb858,3,none⟩) (Kd.R_types HO_12.out BK858.out (by decide)) (fun _ hk=>hk.2) (.slice Ao94 y884.length co94)) (fun _ h_=>h_.1))))) (zAD (aQ_ HB.out GE853.out GE854.out GE858.out)));have n5_:=aK_ (zAI (g:=gb853) (o:=.cells #[.int .i64 x854000_6,.int .i64 (wrap64 (Int.tmod (IntKind.u64.wrap (a0)) 4)),.int .i64 0,.int .i64 0,.slice none 0 0,.int .i64 0] 33 (0,0)) (by refine aB_ ?_;refine zAV ?_ NB853_858.out _;refine aB_ ?_;exact BK853.out) hb);have n6_:=aK_ (zAI (g:=gb854) (o:=.cells #[.int .i64 x855000_16,.int .i64 (wrap64 (Int.tmod (IntKind.u64.wrap (a1)) 4)),.int .i64 0,.int .i64 0,.slice none 0 0,.int .i64 0] 33 (0,0)) (by refine aB_ ?_;refine zAV ?_ NB854_858.out _;refine aB_ ?_;exact BK854.out) hb);have n7_:=aK_ (zAI (g:=gb858) (o:=.cells #[.string (⟨#[112]⟩:ByteArray),.slice Ao25 y855.length co25,.int .i64 0,.slice Ao94 y884.length co94] 25 (0,0)) (by refine aB_ ?_;refine zAN (cs:=#[.string (⟨#[112]⟩:ByteArray),.slice Ao25 y855.length co25,.int .i64 0,.slice Ao39 y862.length co39]) ?_ 3 _ rfl;refine aB_ ?_;exact BK858.out) hb);have n8_:=aK_ (zAH (aQ_ HB.out GE853.out GE854.out GE858.out) hb);clear HO_12;clear HO_859001;clear HO_859003;clear HO886;clear BK853;clear BK854;clear BK858;clear HB;have HO_12:=n0_;have HO_859001:=n1_;have HO_859003:=n2_;have HO886:=n3_;have HO889:=n4_;have BK853:=n5_;have BK854:=n6_;have BK858:=n7_;have HB:=n8_;clear n0_ n1_ n2_ n3_ n4_ n5_ n6_ n7_ n8_;(try clear hb);(try clear hb2);(try clear hk);(try clear hi);(try clear ho0)))
  repeat (go_quiet (first|((with_reducible refine zAO (N:=116) rfl ?_);(try (refine zAP (by rfl) ?_;dsimp only));refine Kd.N_lit k33 _ 33 ?hg (N':=116) ?hd (xs:=([(⟨x854000_6,(wrap64 (Int.tmod (IntKind.u64.wrap (a0)) 4)),0,0,([]:List (S45)),0⟩:S33),(⟨2,1,0,0,([]:List (S45)),0⟩:S33),(⟨6,0,0,0,([]:List (S45)),0⟩:S33)]:List (S33))) (inner:=[.int .i64 x854000_6,.int .i64 (wrap64 (Int.tmod (IntKind.u64.wrap (a0)) 4)),.int .i64 0,.int .i64 0,.slice none 0 0,.int .i64 0,.int .i64 2,.int .i64 1,.int .i64 0,.int .i64 0,.slice none 0 0,.int .i64 0,.int .i64 6,.int .i64 0,.int .i64 0,.int .i64 0,.slice none 0 0,.int .i64 0]) (ok:=(fun k_=>some k_≠(.slice (some ad878) t865.length co88:Value).ownBlock∧some k_≠(.slice Ao25 y855.length co25:Value).ownBlock∧some k_≠(.slice Ao39 y862.length co39:Value).ownBlock∧k_≠gb853∧k_≠gb854∧k_≠gb858)) (okp:=(fun k_=>some k_≠(.slice (some ad878) t865.length co88:Value).ownBlock∧some k_≠(.slice Ao25 y855.length co25:Value).ownBlock∧some k_≠(.slice Ao39 y862.length co39:Value).ownBlock∧k_≠gb853∧k_≠gb854∧k_≠gb858)) ?hr ?hp (fun _ hk=>hk) ((show ∀ k_,wc.heap.size≤k_→(fun k_=>some k_≠(.slice (some ad878) t865.length co88:Value).ownBlock∧some k_≠(.slice Ao25 y855.length co25:Value).ownBlock∧some k_≠(.slice Ao39 y862.length co39:Value).ownBlock∧k_≠gb853∧k_≠gb854∧k_≠gb858) k_ from fun k_ hk=>⟨Kd.fresh' (Kd.R_lt (aR_ HO_12.out)) k_ hk,Kd.fresh' (Kd.R_lt (aR_ HO_859001.out)) k_ hk,Kd.fresh' (Kd.N_lt (aN_ HO_859003.out)) k_ hk,Kd.freshB (g:=gb853) (o:=.cells #[.int .i64 x854000_6,.int .i64 (wrap64 (Int.tmod (IntKind.u64.wrap (a0)) 4)),.int .i64 0,.int .i64 0,.slice none 0 0,.int .i64 0] 33 (0,0)) (aB_ BK853.out) k_ hk,Kd.freshB (g:=gb854) (o:=.cells #[.int .i64 x855000_16,.int .i64 (wrap64 (Int.tmod (IntKind.u64.wrap (a1)) 4)),.int .i64 0,.int .i64 0,.slice none 0 0,.int .i64 0] 33 (0,0)) (aB_ BK854.out) k_ hk,Kd.freshB (g:=gb858) (o:=.cells #[.string (⟨#[112]⟩:ByteArray),.slice Ao25 y855.length co25,.int .i64 0,.slice Ao39 y862.length co39] 25 (0,0)) (aB_ BK858.out) k_ hk⟩) _ (Nat.le_refl _)) (Below.refl _ _) (Nat.le_refl _) (by simp) ?_;(case hd=>rfl);(case hg=>rfl);(case hr=>first|(go_simp;done)|(go_simp;rfl));(case hp=>exact (Reps.c6 (show Kd.FK k33 _ _ (⟨x854000_6,(wrap64 (Int.tmod (IntKind.u64.wrap (a0)) 4)),0,0,([]:List (S45)),0⟩:S33) [.int .i64 x854000_6,.int .i64 (wrap64 (Int.tmod (IntKind.u64.wrap (a0)) 4)),.int .i64 0,.int .i64 0,.slice none 0 0,.int .i64 0] from (k33_mkF _ _ (⟨x854000_6,(wrap64 (Int.tmod (IntKind.u64.wrap (a0)) 4)),0,0,([]:List (S45)),0⟩:S33) (Nat.le_refl _) (Kd.F_nil _ _ _))) (Reps.c6 (show Kd.FK k33 _ _ (⟨2,1,0,0,([]:List (S45)),0⟩:S33) [.int .i64 2,.int .i64 1,.int .i64 0,.int .i64 0,.slice none 0 0,.int .i64 0] from (k33_mkF _ _ (⟨2,1,0,0,([]:List (S45)),0⟩:S33) (Nat.le_refl _) (Kd.F_nil _ _ _))) (Reps.c6 (show Kd.FK k33 _ _ (⟨6,0,0,0,([]:List (S45)),0⟩:S33) [.int .i64 6,.int .i64 0,.int .i64 0,.int .i64 0,.slice none 0 0,.int .i64 0] from (k33_mkF _ _ (⟨6,0,0,0,([]:List (S45)),0⟩:S33) (Nat.le_refl _) (Kd.F_nil _ _ _))) (Reps.none _ _)))));intro v885 w92 ho93 hb hg_ hnew_;clear hg_ hnew_;(first|rw [← Ny884.out] at ho93|(simp only [Int.reduceToNat] at ho93;rw [← Ny884.out] at ho93));have n0_:=aK_ (Kd.R_below (aR_ HO_12.out) hb);have n1_:=aK_ (Kd.R_below (aR_ HO_859001.out) hb);have n2_:=aK_ (Kd.N_elder' (aN_ HO_859003.out) (Kd.N_base ho93) hb);have n3_:=aK_ (Kd.N_lower ho93 (zAD (aQ_ HB.out GE853.out GE854.out GE858.out)));have n4_:=aK_ (zAI (g:=gb853) (o:=.cells #[.int .i64 x854000_6,.int .i64 (wrap64 (Int.tmod (IntKind.u64.wrap (a0)) 4)),.int .i64 0,.int .i64 0,.slice none 0 0,.int .i64 0] 33 (0,0)) (aB_ BK853.out) hb);have n5_:=aK_ (zAI (g:=gb854) (o:=.cells #[.int .i64 x855000_16,.int .i64 (wrap64 (Int.tmod (IntKind.u64.wrap (a1)) 4)),.int .i64 0,.int .i64 0,.slice none 0 0,.int .i64 0] 33 (0,0)) (aB_ BK854.out) hb);have n6_:=aK_ (zAI (g:=gb858) (o:=.cells #[.string (⟨#[112]⟩:ByteArray),.slice Ao25 y855.length co25,.int .i64 0,.slice Ao39 y862.length co39] 25 (0,0)) (aB_ BK858.out) hb);have n7_:=aK_ (zAH (aQ_ HB.out GE853.out GE854.out GE858.out) hb);clear HO_12;clear HO_859001;clear HO_859003;clear BK853;clear BK854;clear BK858;clear HB;have HO_12:=n0_;have HO_859001:=n1_;have HO_859003:=n2_;have HO886:=n3_;have BK853:=n4_;have BK854:=n5_;have BK858:=n6_;have HB:=n7_;clear n0_ n1_ n2_ n3_ n4_ n5_ n6_ n7_;clear hb ho93;obtain ⟨Ao94,co94,eo94⟩:=Kd.N_slice HO886.out;subst eo94;have hnb95:=NB858_854.out;have hnc95:=NB854_858.out;have hcz96_0:w92.cell? ⟨gb858,0,none⟩=some (.string (⟨#[112]⟩:ByteArray)):=(zAB BK858.out 0).trans rfl;have hcz96_1:w92.cell? ⟨gb858,1,none⟩=some (.slice Ao25 y855.length co25):=(zAB BK858.out 1).trans rfl;have hcz96_2:w92.cell? ⟨gb858,2,none⟩=some (.int .i64 0):=(zAB BK858.out 2).trans rfl;have hcz96_3:w92.cell? ⟨gb858,3,none⟩=some (.slice Ao39 y862.length co39):=(zAB BK858.out 3).trans rfl;have hfz96_0:=zAA BK858.out 0;have hfz96_1:=zAA BK858.out 1;have hfz96_2:=zAA BK858.out 2;have hfz96_3:=zAA BK858.out 3)|(go_at_call 33;(with_reducible refine (zAG.calls kj21 (⟨#[112]⟩:ByteArray) _ _ y855 0 _ _ y884 t887 t890 t891 _ ?side1 ?side2 ?side3 ?side4 ?side5 A86.out).mono ?_);(case side1=>(first|(with_reducible exact hG)|((repeat (with_reducible first|exact hG|apply GW.drewN|apply GW.drew|apply GW.alloc));done)|exact GW.below hG (aQ_ HB.out GE853.out GE854.out GE858.out)));(case side2=>refine (Kd.R_reads' (e:=47) (base:=w.heap.size) (ok:=fun k_=>True) (n:=y855.length) (c:=co25) ?_).2.2;exact (by refine aR_ ?_;exact (Kd.R_mono (Kd.R_far (p:=⟨gb858,3,none⟩) (Kd.R_types HO_859001.out BK858.out (by decide)) (fun _ hk=>hk.2) (.slice Ao94 y884.length co94)) (fun _ h_=>h_.1))));(case side3=>exact (Kd.R_reads' HO_859001.out).2.1);(case side4=>refine (Kd.N_reads' (e:=33) (base:=w.heap.size) (ok:=fun k_=>(some k_≠(.slice (some ad878) t865.length co88:Value).ownBlock∧(some k_≠(.slice Ao25 y855.length co25:Value).ownBlock∧(some k_≠(.slice Ao39 y862.length co39:Value).ownBlock∧(k_≠gb853∧(k_≠gb854∧k_≠gb858)))))) (n:=y884.length) (c:=co94) ?_).2.2;exact (by refine aN_ ?_;exact (Kd.N_mono (Kd.N_far (p:=⟨gb858,3,none⟩) (Kd.N_mono HO886.out (fun k_ hk=>(⟨hk,hk.2.2.2.2.2⟩:_∧k_≠gb858))) (fun _ hk=>hk.2) (.slice Ao94 y884.length co94)) (fun _ h_=>h_.1))));(case side5=>exact (Kd.N_reads' HO886.out).2.1);rintro e w97 ⟨v888,rfl,ho0,hb⟩;have n0_:=aK_ (Kd.R_elder' (by refine aR_ ?_;exact (Kd.R_mono (Kd.R_far (p:=⟨gb858,3,none⟩) (Kd.R_types HO_12.out BK858.out (by decide)) (fun _ hk=>hk.2) (.slice Ao94 y884.length co94)) (fun _ h_=>h_.1))) (Kd.R_base ho0) hb);have n1_:=aK_ (Kd.R_below (by refine aR_ ?_;exact (Kd.R_mono (Kd.R_far (p:=⟨gb858,3,none⟩) (Kd.R_types HO_859001.out BK858.out (by decide)) (fun _ hk=>hk.2) (.slice Ao94 y884.length co94)) (fun _ h_=>h_.1))) hb);have n2_:=aK_ (Kd.N_elder' (by refine aN_ ?_;exact (Kd.N_mono (Kd.N_far (p:=⟨gb858,3,none⟩) (Kd.N_mono HO_859003.out (fun k_ hk=>(⟨hk,hk.1.2.2.2.2⟩:_∧k_≠gb858))) (fun _ hk=>hk.2) (.slice Ao94 y884.length co94)) (fun _ h_=>h_.1))) (Kd.R_base ho0) hb);have n3_:=aK_ (Kd.N_elder' (by refine aN_ ?_;exact (Kd.N_mono (Kd.N_far (p:=⟨gb858,3,none⟩) (Kd.N_mono HO886.out (fun k_ hk=>(⟨hk,hk.2.2.2.2.2⟩:_∧k_≠gb858))) (fun _ hk=>hk.2) (.slice Ao94 y884.length co94)) (fun _ h_=>h_.1))) (Kd.R_base ho0) hb);have n4_:=aK_ (Kd.R_lower (Kd.R_new' ho0 (Kd.R_lt (by refine aR_ ?_;exact (Kd.R_mono (Kd.R_far (p:=⟨gb858,3,none⟩) (Kd.R_types HO_12.out BK858.out (by decide)) (fun _ hk=>hk.2) (.slice Ao94 y884.length co94)) (fun _ h_=>h_.1))))) (zAD (aQ_ HB.out GE853.out GE854.out GE858.out)));have n5_:=aK_ (zAI (g:=gb853) (o:=.cells #[.int .i64 x854000_6,.int .i64 (wrap64 (Int.tmod (IntKind.u64.wrap (a0)) 4)),.int .i64 0,.int .i64 0,.slice none 0 0,.int .i64 0] 33 (0,0)) (by refine aB_ ?_;refine zAV ?_ NB853_858.out _;refine aB_ ?_;exact BK853.out) hb);have n6_:=aK_ (zAI (g:=gb854) (o:=.cells #[.int .i64 x855000_16,.int .i64 (wrap64 (Int.tmod (IntKind.u64.wrap (a1)) 4)),.int .i64 0,.int .i64 0,.slice none 0 0,.int .i64 0] 33 (0,0)) (by refine aB_ ?_;refine zAV ?_ NB854_858.out _;refine aB_ ?_;exact BK854.out) hb);have n7_:=aK_ (zAI (g:=gb858) (o:=.cells #[.string (⟨#[112]⟩:ByteArray),.slice Ao25 y855.length co25,.int .i64 0,.slice Ao94 y884.length co94] 25 (0,0)) (by refine aB_ ?_;refine zAN (cs:=#[.string (⟨#[112]⟩:ByteArray),.slice Ao25 y855.length co25,.int .i64 0,.slice Ao39 y862.length co39]) ?_ 3 _ rfl;refine aB_ ?_;exact BK858.out) hb);have n8_:=aK_ (zAH (aQ_ HB.out GE853.out GE854.out GE858.out) hb);clear HO_12;clear HO_859001;clear HO_859003;clear HO886;clear BK853;clear BK854;clear BK858;clear HB;have HO_12:=n0_;have HO_859001:=n1_;have HO_859003:=n2_;have HO886:=n3_;have HO889:=n4_;have BK853:=n5_;have BK854:=n6_;have BK858:=n7_;have HB:=n8_;clear n0_ n1_ n2_ n3_ n4_ n5_ n6_ n7_ n8_;(try clear hb);(try clear hb2);(try clear hk);(try clear hi);(try clear ho0)));try go_wp2_with (first|((with_reducible refine zAO (N:=116) rfl ?_);(try (refine zAP (by rfl) ?_;dsimp only));refine Kd.N_lit k33 _ 33 ?hg (N':=116) ?hd (xs:=([(⟨x854000_6,(wrap64 (Int.tmod (IntKind.u64.wrap (a0)) 4)),0,0,([]:List (S45)),0⟩:S33),(⟨2,1,0,0,([]:List (S45)),0⟩:S33),(⟨6,0,0,0,([]:List (S45)),0⟩:S33)]:List (S33))) (inner:=[.int .i64 x854000_6,.int .i64 (wrap64 (Int.tmod (IntKind.u64.wrap (a0)) 4)),.int .i64 0,.int .i64 0,.slice none 0 0,.int .i64 0,.int .i64 2,.int .i64 1,.int .i64 0,.int .i64 0,.slice none 0 0,.int .i64 0,.int .i64 6,.int .i64 0,.int .i64 0,.int .i64 0,.slice none 0 0,.int .i64 0]) (ok:=(fun k_=>some k_≠(.slice (some ad878) t865.length co88:Value).ownBlock∧some k_≠(.slice Ao25 y855.length co25:Value).ownBlock∧some k_≠(.slice Ao39 y862.length co39:Value).ownBlock∧k_≠gb853∧k_≠gb854∧k_≠gb858)) (okp:=(fun k_=>some k_≠(.slice (some ad878) t865.length co88:Value).ownBlock∧some k_≠(.slice Ao25 y855.length co25:Value).ownBlock∧some k_≠(.slice Ao39 y862.length co39:Value).ownBlock∧k_≠gb853∧k_≠gb854∧k_≠gb858)) ?hr ?hp (fun _ hk=>hk) ((show ∀ k_,wc.heap.size≤k_→(fun k_=>some k_≠(.slice (some ad878) t865.length co88:Value).ownBlock∧some k_≠(.slice Ao25 y855.length co25:Value).ownBlock∧some k_≠(.slice Ao39 y862.length co39:Value).ownBlock∧k_≠gb853∧k_≠gb854∧k_≠gb858) k_ from fun k_ hk=>⟨Kd.fresh' (Kd.R_lt (aR_ HO_12.out)) k_ hk,Kd.fresh' (Kd.R_lt (aR_ HO_859001.out)) k_ hk,Kd.fresh' (Kd.N_lt (aN_ HO_859003.out)) k_ hk,Kd.freshB (g:=gb853) (o:=.cells #[.int .i64 x854000_6,.int .i64 (wrap64 (Int.tmod (IntKind.u64.wrap (a0)) 4)),.int .i64 0,.int .i64 0,.slice none 0 0,.int .i64 0] 33 (0,0)) (aB_ BK853.out) k_ hk,Kd.freshB (g:=gb854) (o:=.cells #[.int .i64 x855000_16,.int .i64 (wrap64 (Int.tmod (IntKind.u64.wrap (a1)) 4)),.int .i64 0,.int .i64 0,.slice none 0 0,.int .i64 0] 33 (0,0)) (aB_ BK854.out) k_ hk,Kd.freshB (g:=gb858) (o:=.cells #[.string (⟨#[112]⟩:ByteArray),.slice Ao25 y855.length co25,.int .i64 0,.slice Ao39 y862.length co39] 25 (0,0)) (aB_ BK858.out) k_ hk⟩) _ (Nat.le_refl _)) (Below.refl _ _) (Nat.le_refl _) (by simp) ?_;(case hd=>rfl);(case hg=>rfl);(case hr=>first|(go_simp;done)|(go_simp;rfl));(case hp=>exact (Reps.c6 (show Kd.FK k33 _ _ (⟨x854000_6,(wrap64 (Int.tmod (IntKind.u64.wrap (a0)) 4)),0,0,([]:List (S45)),0⟩:S33) [.int .i64 x854000_6,.int .i64 (wrap64 (Int.tmod (IntKind.u64.wrap (a0)) 4)),.int .i64 0,.int .i64 0,.slice none 0 0,.int .i64 0] from (k33_mkF _ _ (⟨x854000_6,(wrap64 (Int.tmod (IntKind.u64.wrap (a0)) 4)),0,0,([]:List (S45)),0⟩:S33) (Nat.le_refl _) (Kd.F_nil _ _ _))) (Reps.c6 (show Kd.FK k33 _ _ (⟨2,1,0,0,([]:List (S45)),0⟩:S33) [.int .i64 2,.int .i64 1,.int .i64 0,.int .i64 0,.slice none 0 0,.int .i64 0] from (k33_mkF _ _ (⟨2,1,0,0,([]:List (S45)),0⟩:S33) (Nat.le_refl _) (Kd.F_nil _ _ _))) (Reps.c6 (show Kd.FK k33 _ _ (⟨6,0,0,0,([]:List (S45)),0⟩:S33) [.int .i64 6,.int .i64 0,.int .i64 0,.int .i64 0,.slice none 0 0,.int .i64 0] from (k33_mkF _ _ (⟨6,0,0,0,([]:List (S45)),0⟩:S33) (Nat.le_refl _) (Kd.F_nil _ _ _))) (Reps.none _ _)))));intro v885 w92 ho93 hb hg_ hnew_;clear hg_ hnew_;(first|rw [← Ny884.out] at ho93|(simp only [Int.reduceToNat] at ho93;rw [← Ny884.out] at ho93));have n0_:=aK_ (Kd.R_below (aR_ HO_12.out) hb);have n1_:=aK_ (Kd.R_below (aR_ HO_859001.out) hb);have n2_:=aK_ (Kd.N_elder' (aN_ HO_859003.out) (Kd.N_base ho93) hb);have n3_:=aK_ (Kd.N_lower ho93 (zAD (aQ_ HB.out GE853.out GE854.out GE858.out)));have n4_:=aK_ (zAI (g:=gb853) (o:=.cells #[.int .i64 x854000_6,.int .i64 (wrap64 (Int.tmod (IntKind.u64.wrap (a0)) 4)),.int .i64 0,.int .i64 0,.slice none 0 0,.int .i64 0] 33 (0,0)) (aB_ BK853.out) hb);have n5_:=aK_ (zAI (g:=gb854) (o:=.cells #[.int .i64 x855000_16,.int .i64 (wrap64 (Int.tmod (IntKind.u64.wrap (a1)) 4)),.int .i64 0,.int .i64 0,.slice none 0 0,.int .i64 0] 33 (0,0)) (aB_ BK854.out) hb);have n6_:=aK_ (zAI (g:=gb858) (o:=.cells #[.string (⟨#[112]⟩:ByteArray),.slice Ao25 y855.length co25,.int .i64 0,.slice Ao39 y862.length co39] 25 (0,0)) (aB_ BK858.out) hb);have n7_:=aK_ (zAH (aQ_ HB.out GE853.out GE854.out GE858.out) hb);clear HO_12;clear HO_859001;clear HO_859003;clear BK853;clear BK854;clear BK858;clear HB;have HO_12:=n0_;have HO_859001:=n1_;have HO_859003:=n2_;have HO886:=n3_;have BK853:=n4_;have BK854:=n5_;have BK858:=n6_;have HB:=n7_;clear n0_ n1_ n2_ n3_ n4_ n5_ n6_ n7_;clear hb ho93;obtain ⟨Ao94,co94,eo94⟩:=Kd.N_slice HO886.out;subst eo94;have hnb95:=NB858_854.out;have hnc95:=NB854_858.out;have hcz96_0:w92.cell? ⟨gb858,0,none⟩=some (.string (⟨#[112]⟩:ByteArray)):=(zAB BK858.out 0).trans rfl;have hcz96_1:w92.cell? ⟨gb858,1,none⟩=some (.slice Ao25 y855.length co25):=(zAB BK858.out 1).trans rfl;have hcz96_2:w92.cell? ⟨gb858,2,none⟩=some (.int .i64 0):=(zAB BK858.out 2).trans rfl;have hcz96_3:w92.cell? ⟨gb858,3,none⟩=some (.slice Ao39 y862.length co39):=(zAB BK858.out 3).trans rfl;have hfz96_0:=zAA BK858.out 0;have hfz96_1:=zAA BK858.out 1;have hfz96_2:=zAA BK858.out 2;have hfz96_3:=zAA BK858.out 3)|(go_at_call 33;(with_reducible refine (zAG.calls kj21 (⟨#[112]⟩:ByteArray) _ _ y855 0 _ _ y884 t887 t890 t891 _ ?side1 ?side2 ?side3 ?side4 ?side5 A86.out).mono ?_);(case side1=>(first|(with_reducible exact hG)|((repeat (with_reducible first|exact hG|apply GW.drewN|apply GW.drew|apply GW.alloc));done)|exact GW.below hG (aQ_ HB.out GE853.out GE854.out GE858.out)));(case side2=>refine (Kd.R_reads' (e:=47) (base:=w.heap.size) (ok:=fun k_=>True) (n:=y855.length) (c:=co25) ?_).2.2;exact (by refine aR_ ?_;exact (Kd.R_mono (Kd.R_far (p:=⟨gb858,3,none⟩) (Kd.R_types HO_859001.out BK858.out (by decide)) (fun _ hk=>hk.2) (.slice Ao94 y884.length co94)) (fun _ h_=>h_.1))));(case side3=>exact (Kd.R_reads' HO_859001.out).2.1);(case side4=>refine (Kd.N_reads' (e:=33) (base:=w.heap.size) (ok:=fun k_=>(some k_≠(.slice (some ad878) t865.length co88:Value).ownBlock∧(some k_≠(.slice Ao25 y855.length co25:Value).ownBlock∧(some k_≠(.slice Ao39 y862.length co39:Value).ownBlock∧(k_≠gb853∧(k_≠gb854∧k_≠gb858)))))) (n:=y884.length) (c:=co94) ?_).2.2;exact (by refine aN_ ?_;exact (Kd.N_mono (Kd.N_far (p:=⟨gb858,3,none⟩) (Kd.N_mono HO886.out (fun k_ hk=>(⟨hk,hk.2.2.2.2.2⟩:_∧k_≠gb858))) (fun _ hk=>hk.2) (.slice Ao94 y884.length co94)) (fun _ h_=>h_.1))));(case side5=>exact (Kd.N_reads' HO886.out).2.1);rintro e w97 ⟨v888,rfl,ho0,hb⟩;have n0_:=aK_ (Kd.R_elder' (by refine aR_ ?_;exact (Kd.R_mono (Kd.R_far (p:=⟨gb858,3,none⟩) (Kd.R_types HO_12.out BK858.out (by decide)) (fun _ hk=>hk.2) (.slice Ao94 y884.length co94)) (fun _ h_=>h_.1))) (Kd.R_base ho0) hb);have n1_:=aK_ (Kd.R_below (by refine aR_ ?_;exact (Kd.R_mono (Kd.R_far (p:=⟨gb858,3,none⟩) (Kd.R_types HO_859001.out BK858.out (by decide)) (fun _ hk=>hk.2) (.slice Ao94 y884.length co94)) (fun _ h_=>h_.1))) hb);have n2_:=aK_ (Kd.N_elder' (by refine aN_ ?_;exact (Kd.N_mono (Kd.N_far (p:=⟨gb858,3,none⟩) (Kd.N_mono HO_859003.out (fun k_ hk=>(⟨hk,hk.1.2.2.2.2⟩:_∧k_≠gb858))) (fun _ hk=>hk.2) (.slice Ao94 y884.length co94)) (fun _ h_=>h_.1))) (Kd.R_base ho0) hb);have n3_:=aK_ (Kd.N_elder' (by refine aN_ ?_;exact (Kd.N_mono (Kd.N_far (p:=⟨gb858,3,none⟩) (Kd.N_mono HO886.out (fun k_ hk=>(⟨hk,hk.2.2.2.2.2⟩:_∧k_≠gb858))) (fun _ hk=>hk.2) (.slice Ao94 y884.length co94)) (fun _ h_=>h_.1))) (Kd.R_base ho0) hb);have n4_:=aK_ (Kd.R_lower (Kd.R_new' ho0 (Kd.R_lt (by refine aR_ ?_;exact (Kd.R_mono (Kd.R_far (p:=⟨gb858,3,none⟩) (Kd.R_types HO_12.out BK858.out (by decide)) (fun _ hk=>hk.2) (.slice Ao94 y884.length co94)) (fun _ h_=>h_.1))))) (zAD (aQ_ HB.out GE853.out GE854.out GE858.out)));have n5_:=aK_ (zAI (g:=gb853) (o:=.cells #[.int .i64 x854000_6,.int .i64 (wrap64 (Int.tmod (IntKind.u64.wrap (a0)) 4)),.int .i64 0,.int .i64 0,.slice none 0 0,.int .i64 0] 33 (0,0)) (by refine aB_ ?_;refine zAV ?_ NB853_858.out _;refine aB_ ?_;exact BK853.out) hb);have n6_:=aK_ (zAI (g:=gb854) (o:=.cells #[.int .i64 x855000_16,.int .i64 (wrap64 (Int.tmod (IntKind.u64.wrap (a1)) 4)),.int .i64 0,.int .i64 0,.slice none 0 0,.int .i64 0] 33 (0,0)) (by refine aB_ ?_;refine zAV ?_ NB854_858.out _;refine aB_ ?_;exact BK854.out) hb);have n7_:=aK_ (zAI (g:=gb858) (o:=.cells #[.string (⟨#[112]⟩:ByteArray),.slice Ao25 y855.length co25,.int .i64 0,.slice Ao94 y884.length co94] 25 (0,0)) (by refine aB_ ?_;refine zAN (cs:=#[.string (⟨#[112]⟩:ByteArray),.slice Ao25 y855.length co25,.int .i64 0,.slice Ao39 y862.length co39]) ?_ 3 _ rfl;refine aB_ ?_;exact BK858.out) hb);have n8_:=aK_ (zAH (aQ_ HB.out GE853.out GE854.out GE858.out) hb);clear HO_12;clear HO_859001;clear HO_859003;clear HO886;clear BK853;clear BK854;clear BK858;clear HB;have HO_12:=n0_;have HO_859001:=n1_;have HO_859003:=n2_;have HO886:=n3_;have HO889:=n4_;have BK853:=n5_;have BK854:=n6_;have BK858:=n7_;have HB:=n8_;clear n0_ n1_ n2_ n3_ n4_ n5_ n6_ n7_ n8_;(try clear hb);(try clear hb2);(try clear hk);(try clear hi);(try clear ho0))))
  go_ret
  exact ⟨by first|rfl|(simp [zAK,zAL] <;> rfl)|(simp [*,zAK,zAL] <;> rfl),aQ_ HB.out GE853.out GE854.out GE858.out⟩
 rw [if_neg c87] at H
 have c87b0:(t891 == 80)=false:=beq_eq_false_iff_ne.mpr c87
 have c87b1:(t891 != 80)=true:=bne_iff_ne.mpr c87
 obtain rfl:=Option.some.inj H
 obtain ⟨Ao98,co98,eo98⟩:=Kd.R_slice HO_12.out
 subst eo98
 have p878:0≤(0:Int):=(by omega)
 have q878:0<(t865.length:Int):=aD_
 obtain ⟨ad878,e878,hx878_0⟩:=Kd.at_int (Kd.R_reads' HO_12.out).2.2 0 p878 q878
 cases e878
 have qi878:(0<t865.length)=True:=eq_true (by omega)
 (try rw [show ((0:Int)).toNat=0 from rfl] at hx878_0)
 (try rw [Addr.add_zero'] at hx878_0)
 replace p878:=eq_true p878
 replace q878:=eq_true q878
 have p879:0≤(1:Int):=(by omega)
 have q879:1<(t865.length:Int):=aD_
 obtain ⟨ad879,e879,hx879_0⟩:=Kd.at_int (Kd.R_reads' HO_12.out).2.2 1 p879 q879
 obtain rfl:ad878=ad879:=(by injection e879)
 (try simp only [show (1:Int).toNat=1 from rfl,Nat.reduceMul,Nat.reduceEqDiff,Go.Addr.add,↓reduceIte] at hx879_0)
 have qi879:(1<t865.length)=True:=eq_true (by omega)
 (try rw [show ((1:Int)).toNat=1 from rfl] at hx879_0)
 replace p879:=eq_true p879
 replace q879:=eq_true q879
 have p880:0≤(2:Int):=(by omega)
 have q880:2<(t865.length:Int):=aD_
 obtain ⟨ad880,e880,hx880_0⟩:=Kd.at_int (Kd.R_reads' HO_12.out).2.2 2 p880 q880
 obtain rfl:ad878=ad880:=(by injection e880)
 (try simp only [show (2:Int).toNat=2 from rfl,Nat.reduceMul,Nat.reduceEqDiff,Go.Addr.add,↓reduceIte] at hx880_0)
 have qi880:(2<t865.length)=True:=eq_true (by omega)
 (try rw [show ((2:Int)).toNat=2 from rfl] at hx880_0)
 replace p880:=eq_true p880
 replace q880:=eq_true q880
 have p881:0≤(0:Int):=(by omega)
 have q881:0<(t865.length:Int):=aD_
 obtain ⟨ad881,e881,hx881_0⟩:=Kd.at_int (Kd.R_reads' HO_12.out).2.2 0 p881 q881
 obtain rfl:ad878=ad881:=(by injection e881)
 have qi881:(0<t865.length)=True:=eq_true (by omega)
 (try rw [show ((0:Int)).toNat=0 from rfl] at hx881_0)
 (try rw [Addr.add_zero'] at hx881_0)
 replace p881:=eq_true p881
 replace q881:=eq_true q881
 have p882:0≤(3:Int):=(by omega)
 have q882:3<(t865.length:Int):=aD_
 obtain ⟨ad882,e882,hx882_0⟩:=Kd.at_int (Kd.R_reads' HO_12.out).2.2 3 p882 q882
 obtain rfl:ad878=ad882:=(by injection e882)
 (try simp only [show (3:Int).toNat=3 from rfl,Nat.reduceMul,Nat.reduceEqDiff,Go.Addr.add,↓reduceIte] at hx882_0)
 have qi882:(3<t865.length)=True:=eq_true (by omega)
 (try rw [show ((3:Int)).toNat=3 from rfl] at hx882_0)
 replace p882:=eq_true p882
 replace q882:=eq_true q882
 have p883:0≤(0:Int):=(by omega)
 have q883:0<(t865.length:Int):=aD_
 obtain ⟨ad883,e883,hx883_0⟩:=Kd.at_int (Kd.R_reads' HO_12.out).2.2 0 p883 q883
 obtain rfl:ad878=ad883:=(by injection e883)
 have qi883:(0<t865.length)=True:=eq_true (by omega)
 (try rw [show ((0:Int)).toNat=0 from rfl] at hx883_0)
 (try rw [Addr.add_zero'] at hx883_0)
 replace p883:=eq_true p883
 replace q883:=eq_true q883
 have hnb99:=NB853_854.out
 have hnc99:=NB854_853.out
 have hnb100:=NB853_858.out
 have hnc100:=NB858_853.out
 have hcz101_0:wc.cell? ⟨gb853,0,none⟩=some (.int .i64 x854000_6):=(zAB BK853.out 0).trans rfl
 have hcz101_1:wc.cell? ⟨gb853,1,none⟩=some (.int .i64 (wrap64 (Int.tmod (IntKind.u64.wrap (a0)) 4))):=(zAB BK853.out 1).trans rfl
 have hcz101_2:wc.cell? ⟨gb853,2,none⟩=some (.int .i64 0):=(zAB BK853.out 2).trans rfl
 have hcz101_3:wc.cell? ⟨gb853,3,none⟩=some (.int .i64 0):=(zAB BK853.out 3).trans rfl
 have hcz101_4:wc.cell? ⟨gb853,4,none⟩=some (.slice none 0 0):=(zAB BK853.out 4).trans rfl
 have hcz101_5:wc.cell? ⟨gb853,5,none⟩=some (.int .i64 0):=(zAB BK853.out 5).trans rfl
 have hfz101_0:=zAA BK853.out 0
 have hfz101_1:=zAA BK853.out 1
 have hfz101_2:=zAA BK853.out 2
 have hfz101_3:=zAA BK853.out 3
 have hfz101_4:=zAA BK853.out 4
 have hfz101_5:=zAA BK853.out 5
 go_wp2_with (first|((with_reducible refine zAO (N:=116) rfl ?_);(try (refine zAP (by rfl) ?_;dsimp only));refine Kd.N_lit k33 _ 33 ?hg (N':=116) ?hd (xs:=([(⟨x854000_6,(wrap64 (Int.tmod (IntKind.u64.wrap (a0)) 4)),0,0,([]:List (S45)),0⟩:S33),(⟨2,1,0,0,([]:List (S45)),0⟩:S33),(⟨6,0,0,0,([]:List (S45)),0⟩:S33)]:List (S33))) (inner:=[.int .i64 x854000_6,.int .i64 (wrap64 (Int.tmod (IntKind.u64.wrap (a0)) 4)),.int .i64 0,.int .i64 0,.slice none 0 0,.int .i64 0,.int .i64 2,.int .i64 1,.int .i64 0,.int .i64 0,.slice none 0 0,.int .i64 0,.int .i64 6,.int .i64 0,.int .i64 0,.int .i64 0,.slice none 0 0,.int .i64 0]) (ok:=(fun k_=>some k_≠(.slice (some ad878) t865.length co98:Value).ownBlock∧some k_≠(.slice Ao25 y855.length co25:Value).ownBlock∧some k_≠(.slice Ao39 y862.length co39:Value).ownBlock∧k_≠gb853∧k_≠gb854∧k_≠gb858)) (okp:=(fun k_=>some k_≠(.slice (some ad878) t865.length co98:Value).ownBlock∧some k_≠(.slice Ao25 y855.length co25:Value).ownBlock∧some k_≠(.slice Ao39 y862.length co39:Value).ownBlock∧k_≠gb853∧k_≠gb854∧k_≠gb858)) ?hr ?hp (fun _ hk=>hk) ((show ∀ k_,wc.heap.size≤k_→(fun k_=>some k_≠(.slice (some ad878) t865.length co98:Value).ownBlock∧some k_≠(.slice Ao25 y855.length co25:Value).ownBlock∧some k_≠(.slice Ao39 y862.length co39:Value).ownBlock∧k_≠gb853∧k_≠gb854∧k_≠gb858) k_ from fun k_ hk=>⟨Kd.fresh' (Kd.R_lt (aR_ HO_12.out)) k_ hk,Kd.fresh' (Kd.R_lt (aR_ HO_859001.out)) k_ hk,Kd.fresh' (Kd.N_lt (aN_ HO_859003.out)) k_ hk,Kd.freshB (g:=gb853) (o:=.cells #[.int .i64 x854000_6,.int .i64 (wrap64 (Int.tmod (IntKind.u64.wrap (a0)) 4)),.int .i64 0,.int .i64 0,.slice none 0 0,.int .i64 0] 33 (0,0)) (aB_ BK853.out) k_ hk,Kd.freshB (g:=gb854) (o:=.cells #[.int .i64 x855000_16,.int .i64 (wrap64 (Int.tmod (IntKind.u64.wrap (a1)) 4)),.int .i64 0,.int .i64 0,.slice none 0 0,.int .i64 0] 33 (0,0)) (aB_ BK854.out) k_ hk,Kd.freshB (g:=gb858) (o:=.cells #[.string (⟨#[112]⟩:ByteArray),.slice Ao25 y855.length co25,.int .i64 0,.slice Ao39 y862.length co39] 25 (0,0)) (aB_ BK858.out) k_ hk⟩) _ (Nat.le_refl _)) (Below.refl _ _) (Nat.le_refl _) (by simp) ?_;(case hd=>rfl);(case hg=>rfl);(case hr=>first|(go_simp;done)|(go_simp;rfl));(case hp=>exact (Reps.c6 (show Kd.FK k33 _ _ (⟨x854000_6,(wrap64 (Int.tmod (IntKind.u64.wrap (a0)) 4)),0,0,([]:List (S45)),0⟩:S33) [.int .i64 x854000_6,.int .i64 (wrap64 (Int.tmod (IntKind.u64.wrap (a0)) 4)),.int .i64 0,.int .i64 0,.slice none 0 0,.int .i64 0] from (k33_mkF _ _ (⟨x854000_6,(wrap64 (Int.tmod (IntKind.u64.wrap (a0)) 4)),0,0,([]:List (S45)),0⟩:S33) (Nat.le_refl _) (Kd.F_nil _ _ _))) (Reps.c6 (show Kd.FK k33 _ _ (⟨2,1,0,0,([]:List (S45)),0⟩:S33) [.int .i64 2,.int .i64 1,.int .i64 0,.int .i64 0,.slice none 0 0,.int .i64 0] from (k33_mkF _ _ (⟨2,1,0,0,([]:List (S45)),0⟩:S33) (Nat.le_refl _) (Kd.F_nil _ _ _))) (Reps.c6 (show Kd.FK k33 _ _ (⟨6,0,0,0,([]:List (S45)),0⟩:S33) [.int .i64 6,.int .i64 0,.int .i64 0,.int .i64 0,.slice none 0 0,.int .i64 0] from (k33_mkF _ _ (⟨6,0,0,0,([]:List (S45)),0⟩:S33) (Nat.le_refl _) (Kd.F_nil _ _ _))) (Reps.none _ _)))));intro v885 w102 ho103 hb hg_ hnew_;clear hg_ hnew_;(first|rw [← Ny884.out] at ho103|(simp only [Int.reduceToNat] at ho103;rw [← Ny884.out] at ho103));have n0_:=aK_ (Kd.R_below (aR_ HO_12.out) hb);have n1_:=aK_ (Kd.R_below (aR_ HO_859001.out) hb);have n2_:=aK_ (Kd.N_elder' (aN_ HO_859003.out) (Kd.N_base ho103) hb);have n3_:=aK_ (Kd.N_lower ho103 (zAD (aQ_ HB.out GE853.out GE854.out GE858.out)));have n4_:=aK_ (zAI (g:=gb853) (o:=.cells #[.int .i64 x854000_6,.int .i64 (wrap64 (Int.tmod (IntKind.u64.wrap (a0)) 4)),.int .i64 0,.int .i64 0,.slice none 0 0,.int .i64 0] 33 (0,0)) (aB_ BK853.out) hb);have n5_:=aK_ (zAI (g:=gb854) (o:=.cells #[.int .i64 x855000_16,.int .i64 (wrap64 (Int.tmod (IntKind.u64.wrap (a1)) 4)),.int .i64 0,.int .i64 0,.slice none 0 0,.int .i64 0] 33 (0,0)) (aB_ BK854.out) hb);have n6_:=aK_ (zAI (g:=gb858) (o:=.cells #[.string (⟨#[112]⟩:ByteArray),.slice Ao25 y855.length co25,.int .i64 0,.slice Ao39 y862.length co39] 25 (0,0)) (aB_ BK858.out) hb);have n7_:=aK_ (zAH (aQ_ HB.out GE853.out GE854.out GE858.out) hb);clear HO_12;clear HO_859001;clear HO_859003;clear BK853;clear BK854;clear BK858;clear HB;have HO_12:=n0_;have HO_859001:=n1_;have HO_859003:=n2_;have HO886:=n3_;have BK853:=n4_;have BK854:=n5_;have BK858:=n6_;have HB:=n7_;clear n0_ n1_ n2_ n3_ n4_ n5_ n6_ n7_;clear hb ho103;obtain ⟨Ao104,co104,eo104⟩:=Kd.N_slice HO886.out;subst eo104;have hnb105:=NB858_854.out;have hnc105:=NB854_858.out;have hcz106_0:w102.cell? ⟨gb858,0,none⟩=some (.string (⟨#[112]⟩:ByteArray)):=(zAB BK858.out 0).trans rfl;have hcz106_1:w102.cell? ⟨gb858,1,none⟩=some (.slice Ao25 y855.length co25):=(zAB BK858.out 1).trans rfl;have hcz106_2:w102.cell? ⟨gb858,2,none⟩=some (.int .i64 0):=(zAB BK858.out 2).trans rfl;have hcz106_3:w102.cell? ⟨gb858,3,none⟩=some (.slice Ao39 y862.length co39):=(zAB BK858.out 3).trans rfl;have hfz106_0:=zAA BK858.out 0;have hfz106_1:=zAA BK858.out 1;have hfz106_2:=zAA BK858.out 2;have hfz106_3:=zAA BK858.out 3)|(go_at_call 33;(with_reducible refine (zAG.calls kj21 (⟨#[112]⟩:ByteArray) _ _ y855 0 _ _ y884 t887 t890 t891 _ ?side1 ?side2 ?side3 ?side4 ?side5 A86.out).mono ?_);(case side1=>(first|(with_reducible exact hG)|((repeat (with_reducible first|exact hG|apply GW.drewN|apply GW.drew|apply GW.alloc));done)|exact GW.below hG (aQ_ HB.out GE853.out GE854.out GE858.out)));(case side2=>refine (Kd.R_reads' (e:=47) (base:=w.heap.size) (ok:=fun k_=>True) (n:=y855.length) (c:=co25) ?_).2.2;exact (by refine aR_ ?_;exact (Kd.R_mono (Kd.R_far (p:=⟨gb858,3,none⟩) (Kd.R_types HO_859001.out BK858.out (by decide)) (fun _ hk=>hk.2) (.slice Ao104 y884.length co104)) (fun _ h_=>h_.1))));(case side3=>exact (Kd.R_reads' HO_859001.out).2.1);(case side4=>refine (Kd.N_reads' (e:=33) (base:=w.heap.size) (ok:=fun k_=>(some k_≠(.slice (some ad878) t865.length co98:Value).ownBlock∧(some k_≠(.slice Ao25 y855.length co25:Value).ownBlock∧(some k_≠(.slice Ao39 y862.length co39:Value).ownBlock∧(k_≠gb853∧(k_≠gb854∧k_≠gb858)))))) (n:=y884.length) (c:=co104) ?_).2.2;exact (by refine aN_ ?_;exact (Kd.N_mono (Kd.N_far (p:=⟨gb858,3,none⟩) (Kd.N_mono HO886.out (fun k_ hk=>(⟨hk,hk.2.2.2.2.2⟩:_∧k_≠gb858))) (fun _ hk=>hk.2) (.slice Ao104 y884.length co104)) (fun _ h_=>h_.1))));(case side5=>exact (Kd.N_reads' HO886.out).2.1);rintro e w107 ⟨v888,rfl,ho0,hb⟩;have n0_:=aK_ (Kd.R_elder' (by refine aR_ ?_;exact (Kd.R_mono (Kd.R_far (p:=⟨gb858,3,none⟩) (Kd.R_types HO_12.out BK858.out (by decide)) (fun _ hk=>hk.2) (.slice Ao104 y884.length co104)) (fun _ h_=>h_.1))) (Kd.R_base ho0) hb);have n1_:=aK_ (Kd.R_below (by refine aR_ ?_;exact (Kd.R_mono (Kd.R_far (p:=⟨gb858,3,none⟩) (Kd.R_types HO_859001.out BK858.out (by decide)) (fun _ hk=>hk.2) (.slice Ao104 y884.length co104)) (fun _ h_=>h_.1))) hb);have n2_:=aK_ (Kd.N_elder' (by refine aN_ ?_;exact (Kd.N_mono (Kd.N_far (p:=⟨gb858,3,none⟩) (Kd.N_mono HO_859003.out (fun k_ hk=>(⟨hk,hk.1.2.2.2.2⟩:_∧k_≠gb858))) (fun _ hk=>hk.2) (.slice Ao104 y884.length co104)) (fun _ h_=>h_.1))) (Kd.R_base ho0) hb);have n3_:=aK_ (Kd.N_elder' (by refine aN_ ?_;exact (Kd.N_mono (Kd.N_far (p:=⟨gb858,3,none⟩) (Kd.N_mono HO886.out (fun k_ hk=>(⟨hk,hk.2.2.2.2.2⟩:_∧k_≠gb858))) (fun _ hk=>hk.2) (.slice Ao104 y884.length co104)) (fun _ h_=>h_.1))) (Kd.R_base ho0) hb);have n4_:=aK_ (Kd.R_lower (Kd.R_new' ho0 (Kd.R_lt (by refine aR_ ?_;exact (Kd.R_mono (Kd.R_far (p:=⟨gb858,3,none⟩) (Kd.R_types HO_12.out BK858.out (by decide)) (fun _ hk=>hk.2) (.slice Ao104 y884.length co104)) (fun _ h_=>h_.1))))) (zAD (aQ_ HB.out GE853.out GE854.out GE858.out)));have n5_:=aK_ (zAI (g:=gb853) (o:=.cells #[.int .i64 x854000_6,.int .i64 (wrap64 (Int.tmod (IntKind.u64.wrap (a0)) 4)),.int .i64 0,.int .i64 0,.slice none 0 0,.int .i64 0] 33 (0,0)) (by refine aB_ ?_;refine zAV ?_ NB853_858.out _;refine aB_ ?_;exact BK853.out) hb);have n6_:=aK_ (zAI (g:=gb854) (o:=.cells #[.int .i64 x855000_16,.int .i64 (wrap64 (Int.tmod (IntKind.u64.wrap (a1)) 4)),.int .i64 0,.int .i64 0,.slice none 0 0,.int .i64 0] 33 (0,0)) (by refine aB_ ?_;refine zAV ?_ NB854_858.out _;refine aB_ ?_;exact BK854.out) hb);have n7_:=aK_ (zAI (g:=gb858) (o:=.cells #[.string (⟨#[112]⟩:ByteArray),.slice Ao25 y855.length co25,.int .i64 0,.slice Ao104 y884.length co104] 25 (0,0)) (by refine aB_ ?_;refine zAN (cs:=#[.string (⟨#[112]⟩:ByteArray),.slice Ao25 y855.length co25,.int .i64 0,.slice Ao39 y862.length co39]) ?_ 3 _ rfl;refine aB_ ?_;exact BK858.out) hb);have n8_:=aK_ (zAH (aQ_ HB.out GE853.out GE854.out GE858.out) hb);clear HO_12;clear HO_859001;clear HO_859003;clear HO886;clear BK853;clear BK854;clear BK858;clear HB;have HO_12:=n0_;have HO_859001:=n1_;have HO_859003:=n2_;have HO886:=n3_;have HO889:=n4_;have BK853:=n5_;have BK854:=n6_;have BK858:=n7_;have HB:=n8_;clear n0_ n1_ n2_ n3_ n4_ n5_ n6_ n7_ n8_;(try clear hb);(try clear hb2);(try clear hk);(try clear hi);(try clear ho0)))
 repeat (go_quiet (first|((with_reducible refine zAO (N:=116) rfl ?_);(try (refine zAP (by rfl) ?_;dsimp only));refine Kd.N_lit k33 _ 33 ?hg (N':=116) ?hd (xs:=([(⟨x854000_6,(wrap64 (Int.tmod (IntKind.u64.wrap (a0)) 4)),0,0,([]:List (S45)),0⟩:S33),(⟨2,1,0,0,([]:List (S45)),0⟩:S33),(⟨6,0,0,0,([]:List (S45)),0⟩:S33)]:List (S33))) (inner:=[.int .i64 x854000_6,.int .i64 (wrap64 (Int.tmod (IntKind.u64.wrap (a0)) 4)),.int .i64 0,.int .i64 0,.slice none 0 0,.int .i64 0,.int .i64 2,.int .i64 1,.int .i64 0,.int .i64 0,.slice none 0 0,.int .i64 0,.int .i64 6,.int .i64 0,.int .i64 0,.int .i64 0,.slice none 0 0,.int .i64 0]) (ok:=(fun k_=>some k_≠(.slice (some ad878) t865.length co98:Value).ownBlock∧some k_≠(.slice Ao25 y855.length co25:Value).ownBlock∧some k_≠(.slice Ao39 y862.length co39:Value).ownBlock∧k_≠gb853∧k_≠gb854∧k_≠gb858)) (okp:=(fun k_=>some k_≠(.slice (some ad878) t865.length co98:Value).ownBlock∧some k_≠(.slice Ao25 y855.length co25:Value).ownBlock∧some k_≠(.slice Ao39 y862.length co39:Value).ownBlock∧k_≠gb853∧k_≠gb854∧k_≠gb858)) ?hr ?hp (fun _ hk=>hk) ((show ∀ k_,wc.heap.size≤k_→(fun k_=>some k_≠(.slice (some ad878) t865.length co98:Value).ownBlock∧some k_≠(.slice Ao25 y855.length co25:Value).ownBlock∧some k_≠(.slice Ao39 y862.length co39:Value).ownBlock∧k_≠gb853∧k_≠gb854∧k_≠gb858) k_ from fun k_ hk=>⟨Kd.fresh' (Kd.R_lt (aR_ HO_12.out)) k_ hk,Kd.fresh' (Kd.R_lt (aR_ HO_859001.out)) k_ hk,Kd.fresh' (Kd.N_lt (aN_ HO_859003.out)) k_ hk,Kd.freshB (g:=gb853) (o:=.cells #[.int .i64 x854000_6,.int .i64 (wrap64 (Int.tmod (IntKind.u64.wrap (a0)) 4)),.int .i64 0,.int .i64 0,.slice none 0 0,.int .i64 0] 33 (0,0)) (aB_ BK853.out) k_ hk,Kd.freshB (g:=gb854) (o:=.cells #[.int .i64 x855000_16,.int .i64 (wrap64 (Int.tmod (IntKind.u64.wrap (a1)) 4)),.int .i64 0,.int .i64 0,.slice none 0 0,.int .i64 0] 33 (0,0)) (aB_ BK854.out) k_ hk,Kd.freshB (g:=gb858) (o:=.cells #[.string (⟨#[112]⟩:ByteArray),.slice Ao25 y855.length co25,.int .i64 0,.slice Ao39 y862.length co39] 25 (0,0)) (aB_ BK858.out) k_ hk⟩) _ (Nat.le_refl _)) (Below.refl _ _) (Nat.le_refl _) (by simp) ?_;(case hd=>rfl);(case hg=>rfl);(case hr=>first|(go_simp;done)|(go_simp;rfl));(case hp=>exact (Reps.c6 (show Kd.FK k33 _ _ (⟨x854000_6,(wrap64 (Int.tmod (IntKind.u64.wrap (a0)) 4)),0,0,([]:List (S45)),0⟩:S33) [.int .i64 x854000_6,.int .i64 (wrap64 (Int.tmod (IntKind.u64.wrap (a0)) 4)),.int .i64 0,.int .i64 0,.slice none 0 0,.int .i64 0] from (k33_mkF _ _ (⟨x854000_6,(wrap64 (Int.tmod (IntKind.u64.wrap (a0)) 4)),0,0,([]:List (S45)),0⟩:S33) (Nat.le_refl _) (Kd.F_nil _ _ _))) (Reps.c6 (show Kd.FK k33 _ _ (⟨2,1,0,0,([]:List (S45)),0⟩:S33) [.int .i64 2,.int .i64 1,.int .i64 0,.int .i64 0,.slice none 0 0,.int .i64 0] from (k33_mkF _ _ (⟨2,1,0,0,([]:List (S45)),0⟩:S33) (Nat.le_refl _) (Kd.F_nil _ _ _))) (Reps.c6 (show Kd.FK k33 _ _ (⟨6,0,0,0,([]:List (S45)),0⟩:S33) [.int .i64 6,.int .i64 0,.int .i64 0,.int .i64 0,.slice none 0 0,.int .i64 0] from (k33_mkF _ _ (⟨6,0,0,0,([]:List (S45)),0⟩:S33) (Nat.le_refl _) (Kd.F_nil _ _ _))) (Reps.none _ _)))));intro v885 w102 ho103 hb hg_ hnew_;clear hg_ hnew_;(first|rw [← Ny884.out] at ho103|(simp only [Int.reduceToNat] at ho103;rw [← Ny884.out] at ho103));have n0_:=aK_ (Kd.R_below (aR_ HO_12.out) hb);have n1_:=aK_ (Kd.R_below (aR_ HO_859001.out) hb);have n2_:=aK_ (Kd.N_elder' (aN_ HO_859003.out) (Kd.N_base ho103) hb);have n3_:=aK_ (Kd.N_lower ho103 (zAD (aQ_ HB.out GE853.out GE854.out GE858.out)));have n4_:=aK_ (zAI (g:=gb853) (o:=.cells #[.int .i64 x854000_6,.int .i64 (wrap64 (Int.tmod (IntKind.u64.wrap (a0)) 4)),.int .i64 0,.int .i64 0,.slice none 0 0,.int .i64 0] 33 (0,0)) (aB_ BK853.out) hb);have n5_:=aK_ (zAI (g:=gb854) (o:=.cells #[.int .i64 x855000_16,.int .i64 (wrap64 (Int.tmod (IntKind.u64.wrap (a1)) 4)),.int .i64 0,.int .i64 0,.slice none 0 0,.int .i64 0] 33 (0,0)) (aB_ BK854.out) hb);have n6_:=aK_ (zAI (g:=gb858) (o:=.cells #[.string (⟨#[112]⟩:ByteArray),.slice Ao25 y855.length co25,.int .i64 0,.slice Ao39 y862.length co39] 25 (0,0)) (aB_ BK858.out) hb);have n7_:=aK_ (zAH (aQ_ HB.out GE853.out GE854.out GE858.out) hb);clear HO_12;clear HO_859001;clear HO_859003;clear BK853;clear BK854;clear BK858;clear HB;have HO_12:=n0_;have HO_859001:=n1_;have HO_859003:=n2_;have HO886:=n3_;have BK853:=n4_;have BK854:=n5_;have BK858:=n6_;have HB:=n7_;clear n0_ n1_ n2_ n3_ n4_ n5_ n6_ n7_;clear hb ho103;obtain ⟨Ao104,co104,eo104⟩:=Kd.N_slice HO886.out;subst eo104;have hnb105:=NB858_854.out;have hnc105:=NB854_858.out;have hcz106_0:w102.cell? ⟨gb858,0,none⟩=some (.string (⟨#[112]⟩:ByteArray)):=(zAB BK858.out 0).trans rfl;have hcz106_1:w102.cell? ⟨gb858,1,none⟩=some (.slice Ao25 y855.length co25):=(zAB BK858.out 1).trans rfl;have hcz106_2:w102.cell? ⟨gb858,2,none⟩=some (.int .i64 0):=(zAB BK858.out 2).trans rfl;have hcz106_3:w102.cell? ⟨gb858,3,none⟩=some (.slice Ao39 y862.length co39):=(zAB BK858.out 3).trans rfl;have hfz106_0:=zAA BK858.out 0;have hfz106_1:=zAA BK858.out 1;have hfz106_2:=zAA BK858.out 2;have hfz106_3:=zAA BK858.out 3)|(go_at_call 33;(with_reducible refine (zAG.calls kj21 (⟨#[112]⟩:ByteArray) _ _ y855 0 _ _ y884 t887 t890 t891 _ ?side1 ?side2 ?side3 ?side4 ?side5 A86.out).mono ?_);(case side1=>(first|(with_reducible exact hG)|((repeat (with_reducible first|exact hG|apply GW.drewN|apply GW.drew|apply GW.alloc));done)|exact GW.below hG (aQ_ HB.out GE853.out GE854.out GE858.out)));(case side2=>refine (Kd.R_reads' (e:=47) (base:=w.heap.size) (ok:=fun k_=>True) (n:=y855.length) (c:=co25) ?_).2.2;exact (by refine aR_ ?_;exact (Kd.R_mono (Kd.R_far (p:=⟨gb858,3,none⟩) (Kd.R_types HO_859001.out BK858.out (by decide)) (fun _ hk=>hk.2) (.slice Ao104 y884.length co104)) (fun _ h_=>h_.1))));(case side3=>exact (Kd.R_reads' HO_859001.out).2.1);(case side4=>refine (Kd.N_reads' (e:=33) (base:=w.heap.size) (ok:=fun k_=>(some k_≠(.slice (some ad878) t865.length co98:Value).ownBlock∧(some k_≠(.slice Ao25 y855.length co25:Value).ownBlock∧(some k_≠(.slice Ao39 y862.length co39:Value).ownBlock∧(k_≠gb853∧(k_≠gb854∧k_≠gb858)))))) (n:=y884.length) (c:=co104) ?_).2.2;exact (by refine aN_ ?_;exact (Kd.N_mono (Kd.N_far (p:=⟨gb858,3,none⟩) (Kd.N_mono HO886.out (fun k_ hk=>(⟨hk,hk.2.2.2.2.2⟩:_∧k_≠gb858))) (fun _ hk=>hk.2) (.slice Ao104 y884.length co104)) (fun _ h_=>h_.1))));(case side5=>exact (Kd.N_reads' HO886.out).2.1);rintro e w107 ⟨v888,rfl,ho0,hb⟩;have n0_:=aK_ (Kd.R_elder' (by refine aR_ ?_;exact (Kd.R_mono (Kd.R_far (p:=⟨gb858,3,none⟩) (Kd.R_types HO_12.out BK858.out (by decide)) (fun _ hk=>hk.2) (.slice Ao104 y884.length co104)) (fun _ h_=>h_.1))) (Kd.R_base ho0) hb);have n1_:=aK_ (Kd.R_below (by refine aR_ ?_;exact (Kd.R_mono (Kd.R_far (p:=⟨gb858,3,none⟩) (Kd.R_types HO_859001.out BK858.out (by decide)) (fun _ hk=>hk.2) (.slice Ao104 y884.length co104)) (fun _ h_=>h_.1))) hb);have n2_:=aK_ (Kd.N_elder' (by refine aN_ ?_;exact (Kd.N_mono (Kd.N_far (p:=⟨gb858,3,none⟩) (Kd.N_mono HO_859003.out (fun k_ hk=>(⟨hk,hk.1.2.2.2.2⟩:_∧k_≠gb858))) (fun _ hk=>hk.2) (.slice Ao104 y884.length co104)) (fun _ h_=>h_.1))) (Kd.R_base ho0) hb);have n3_:=aK_ (Kd.N_elder' (by refine aN_ ?_;exact (Kd.N_mono (Kd.N_far (p:=⟨gb858,3,none⟩) (Kd.N_mono HO886.out (fun k_ hk=>(⟨hk,hk.2.2.2.2.2⟩:_∧k_≠gb858))) (fun _ hk=>hk.2) (.slice Ao104 y884.length co104)) (fun _ h_=>h_.1))) (Kd.R_base ho0) hb);have n4_:=aK_ (Kd.R_lower (Kd.R_new' ho0 (Kd.R_lt (by refine aR_ ?_;exact (Kd.R_mono (Kd.R_far (p:=⟨gb858,3,none⟩) (Kd.R_types HO_12.out BK858.out (by decide)) (fun _ hk=>hk.2) (.slice Ao104 y884.length co104)) (fun _ h_=>h_.1))))) (zAD (aQ_ HB.out GE853.out GE854.out GE858.out)));have n5_:=aK_ (zAI (g:=gb853) (o:=.cells #[.int .i64 x854000_6,.int .i64 (wrap64 (Int.tmod (IntKind.u64.wrap (a0)) 4)),.int .i64 0,.int .i64 0,.slice none 0 0,.int .i64 0] 33 (0,0)) (by refine aB_ ?_;refine zAV ?_ NB853_858.out _;refine aB_ ?_;exact BK853.out) hb);have n6_:=aK_ (zAI (g:=gb854) (o:=.cells #[.int .i64 x855000_16,.int .i64 (wrap64 (Int.tmod (IntKind.u64.wrap (a1)) 4)),.int .i64 0,.int .i64 0,.slice none 0 0,.int .i64 0] 33 (0,0)) (by refine aB_ ?_;refine zAV ?_ NB854_858.out _;refine aB_ ?_;exact BK854.out) hb);have n7_:=aK_ (zAI (g:=gb858) (o:=.cells #[.string (⟨#[112]⟩:ByteArray),.slice Ao25 y855.length co25,.int .i64 0,.slice Ao104 y884.length co104] 25 (0,0)) (by refine aB_ ?_;refine zAN (cs:=#[.string (⟨#[112]⟩:ByteArray),.slice Ao25 y855.length co25,.int .i64 0,.slice Ao39 y862.length co39]) ?_ 3 _ rfl;refine aB_ ?_;exact BK858.out) hb);have n8_:=aK_ (zAH (aQ_ HB.out GE853.out GE854.out GE858.out) hb);clear HO_12;clear HO_859001;clear HO_859003;clear HO886;clear BK853;clear BK854;clear BK858;clear HB;have HO_12:=n0_;have HO_859001:=n1_;have HO_859003:=n2_;have HO886:=n3_;have HO889:=n4_;have BK853:=n5_;have BK854:=n6_;have BK858:=n7_;have HB:=n8_;clear n0_ n1_ n2_ n3_ n4_ n5_ n6_ n7_ n8_;(try clear hb);(try clear hb2);(try clear hk);(try clear hi);(try clear ho0)));try go_wp2_with (first|((with_reducible refine zAO (N:=116) rfl ?_);(try (refine zAP (by rfl) ?_;dsimp only));refine Kd.N_lit k33 _ 33 ?hg (N':=116) ?hd (xs:=([(⟨x854000_6,(wrap64 (Int.tmod (IntKind.u64.wrap (a0)) 4)),0,0,([]:List (S45)),0⟩:S33),(⟨2,1,0,0,([]:List (S45)),0⟩:S33),(⟨6,0,0,0,([]:List (S45)),0⟩:S33)]:List (S33))) (inner:=[.int .i64 x854000_6,.int .i64 (wrap64 (Int.tmod (IntKind.u64.wrap (a0)) 4)),.int .i64 0,.int .i64 0,.slice none 0 0,.int .i64 0,.int .i64 2,.int .i64 1,.int .i64 0,.int .i64 0,.slice none 0 0,.int .i64 0,.int .i64 6,.int .i64 0,.int .i64 0,.int .i64 0,.slice none 0 0,.int .i64 0]) (ok:=(fun k_=>some k_≠(.slice (some ad878) t865.length co98:Value).ownBlock∧some k_≠(.slice Ao25 y855.length co25:Value).ownBlock∧some k_≠(.slice Ao39 y862.length co39:Value).ownBlock∧k_≠gb853∧k_≠gb854∧k_≠gb858)) (okp:=(fun k_=>some k_≠(.slice (some ad878) t865.length co98:Value).ownBlock∧some k_≠(.slice Ao25 y855.length co25:Value).ownBlock∧some k_≠(.slice Ao39 y862.length co39:Value).ownBlock∧k_≠gb853∧k_≠gb854∧k_≠gb858)) ?hr ?hp (fun _ hk=>hk) ((show ∀ k_,wc.heap.size≤k_→(fun k_=>some k_≠(.slice (some ad878) t865.length co98:Value).ownBlock∧some k_≠(.slice Ao25 y855.length co25:Value).ownBlock∧some k_≠(.slice Ao39 y862.length co39:Value).ownBlock∧k_≠gb853∧k_≠gb854∧k_≠gb858) k_ from fun k_ hk=>⟨Kd.fresh' (Kd.R_lt (aR_ HO_12.out)) k_ hk,Kd.fresh' (Kd.R_lt (aR_ HO_859001.out)) k_ hk,Kd.fresh' (Kd.N_lt (aN_ HO_859003.out)) k_ hk,Kd.freshB (g:=gb853) (o:=.cells #[.int .i64 x854000_6,.int .i64 (wrap64 (Int.tmod (IntKind.u64.wrap (a0)) 4)),.int .i64 0,.int .i64 0,.slice none 0 0,.int .i64 0] 33 (0,0)) (aB_ BK853.out) k_ hk,Kd.freshB (g:=gb854) (o:=.cells #[.int .i64 x855000_16,.int .i64 (wrap64 (Int.tmod (IntKind.u64.wrap (a1)) 4)),.int .i64 0,.int .i64 0,.slice none 0 0,.int .i64 0] 33 (0,0)) (aB_ BK854.out) k_ hk,Kd.freshB (g:=gb858) (o:=.cells #[.string (⟨#[112]⟩:ByteArray),.slice Ao25 y855.length co25,.int .i64 0,.slice Ao39 y862.length co39] 25 (0,0)) (aB_ BK858.out) k_ hk⟩) _ (Nat.le_refl _)) (Below.refl _ _) (Nat.le_refl _) (by simp) ?_;(case hd=>rfl);(case hg=>rfl);(case hr=>first|(go_simp;done)|(go_simp;rfl));(case hp=>exact (Reps.c6 (show Kd.FK k33 _ _ (⟨x854000_6,(wrap64 (Int.tmod (IntKind.u64.wrap (a0)) 4)),0,0,([]:List (S45)),0⟩:S33) [.int .i64 x854000_6,.int .i64 (wrap64 (Int.tmod (IntKind.u64.wrap (a0)) 4)),.int .i64 0,.int .i64 0,.slice none 0 0,.int .i64 0] from (k33_mkF _ _ (⟨x854000_6,(wrap64 (Int.tmod (IntKind.u64.wrap (a0)) 4)),0,0,([]:List (S45)),0⟩:S33) (Nat.le_refl _) (Kd.F_nil _ _ _))) (Reps.c6 (show Kd.FK k33 _ _ (⟨2,1,0,0,([]:List (S45)),0⟩:S33) [.int .i64 2,.int .i64 1,.int .i64 0,.int .i64 0,.slice none 0 0,.int .i64 0] from (k33_mkF _ _ (⟨2,1,0,0,([]:List (S45)),0⟩:S33) (Nat.le_refl _) (Kd.F_nil _ _ _))) (Reps.c6 (show Kd.FK k33 _ _ (⟨6,0,0,0,([]:List (S45)),0⟩:S33) [.int .i64 6,.int .i64 0,.int .i64 0,.int .i64 0,.slice none 0 0,.int .i64 0] from (k33_mkF _ _ (⟨6,0,0,0,([]:List (S45)),0⟩:S33) (Nat.le_refl _) (Kd.F_nil _ _ _))) (Reps.none _ _)))));intro v885 w102 ho103 hb hg_ hnew_;clear hg_ hnew_;(first|rw [← Ny884.out] at ho103|(simp only [Int.reduceToNat] at ho103;rw [← Ny884.out] at ho103));have n0_:=aK_ (Kd.R_below (aR_ HO_12.out) hb);have n1_:=aK_ (Kd.R_below (aR_ HO_859001.out) hb);have n2_:=aK_ (Kd.N_elder' (aN_ HO_859003.out) (Kd.N_base ho103) hb);have n3_:=aK_ (Kd.N_lower ho103 (zAD (aQ_ HB.out GE853.out GE854.out GE858.out)));have n4_:=aK_ (zAI (g:=gb853) (o:=.cells #[.int .i64 x854000_6,.int .i64 (wrap64 (Int.tmod (IntKind.u64.wrap (a0)) 4)),.int .i64 0,.int .i64 0,.slice none 0 0,.int .i64 0] 33 (0,0)) (aB_ BK853.out) hb);have n5_:=aK_ (zAI (g:=gb854) (o:=.cells #[.int .i64 x855000_16,.int .i64 (wrap64 (Int.tmod (IntKind.u64.wrap (a1)) 4)),.int .i64 0,.int .i64 0,.slice none 0 0,.int .i64 0] 33 (0,0)) (aB_ BK854.out) hb);have n6_:=aK_ (zAI (g:=gb858) (o:=.cells #[.string (⟨#[112]⟩:ByteArray),.slice Ao25 y855.length co25,.int .i64 0,.slice Ao39 y862.length co39] 25 (0,0)) (aB_ BK858.out) hb);have n7_:=aK_ (zAH (aQ_ HB.out GE853.out GE854.out GE858.out) hb);clear HO_12;clear HO_859001;clear HO_859003;clear BK853;clear BK854;clear BK858;clear HB;have HO_12:=n0_;have HO_859001:=n1_;have HO_859003:=n2_;have HO886:=n3_;have BK853:=n4_;have BK854:=n5_;have BK858:=n6_;have HB:=n7_;clear n0_ n1_ n2_ n3_ n4_ n5_ n6_ n7_;clear hb ho103;obtain ⟨Ao104,co104,eo104⟩:=Kd.N_slice HO886.out;subst eo104;have hnb105:=NB858_854.out;have hnc105:=NB854_858.out;have hcz106_0:w102.cell? ⟨gb858,0,none⟩=some (.string (⟨#[112]⟩:ByteArray)):=(zAB BK858.out 0).trans rfl;have hcz106_1:w102.cell? ⟨gb858,1,none⟩=some (.slice Ao25 y855.length co25):=(zAB BK858.out 1).trans rfl;have hcz106_2:w102.cell? ⟨gb858,2,none⟩=some (.int .i64 0):=(zAB BK858.out 2).trans rfl;have hcz106_3:w102.cell? ⟨gb858,3,none⟩=some (.slice Ao39 y862.length co39):=(zAB BK858.out 3).trans rfl;have hfz106_0:=zAA BK858.out 0;have hfz106_1:=zAA BK858.out 1;have hfz106_2:=zAA BK858.out 2;have hfz106_3:=zAA BK858.out 3)|(go_at_call 33;(with_reducible refine (zAG.calls kj21 (⟨#[112]⟩:ByteArray) _ _ y855 0 _ _ y884 t887 t890 t891 _ ?side1 ?side2 ?side3 ?side4 ?side5 A86.out).mono ?_);(case side1=>(first|(with_reducible exact hG)|((repeat (with_reducible first|exact hG|apply GW.drewN|apply GW.drew|apply GW.alloc));done)|exact GW.below hG (aQ_ HB.out GE853.out GE854.out GE858.out)));(case side2=>refine (Kd.R_reads' (e:=47) (base:=w.heap.size) (ok:=fun k_=>True) (n:=y855.length) (c:=co25) ?_).2.2;exact (by refine aR_ ?_;exact (Kd.R_mono (Kd.R_far (p:=⟨gb858,3,none⟩) (Kd.R_types HO_859001.out BK858.out (by decide)) (fun _ hk=>hk.2) (.slice Ao104 y884.length co104)) (fun _ h_=>h_.1))));(case side3=>exact (Kd.R_reads' HO_859001.out).2.1);(case side4=>refine (Kd.N_reads' (e:=33) (base:=w.heap.size) (ok:=fun k_=>(some k_≠(.slice (some ad878) t865.length co98:Value).ownBlock∧(some k_≠(.slice Ao25 y855.length co25:Value).ownBlock∧(some k_≠(.slice Ao39 y862.length co39:Value).ownBlock∧(k_≠gb853∧(k_≠gb854∧k_≠gb858)))))) (n:=y884.length) (c:=co104) ?_).2.2;exact (by refine aN_ ?_;exact (Kd.N_mono (Kd.N_far (p:=⟨gb858,3,none⟩) (Kd.N_mono HO886.out (fun k_ hk=>(⟨hk,hk.2.2.2.2.2⟩:_∧k_≠gb858))) (fun _ hk=>hk.2) (.slice Ao104 y884.length co104)) (fun _ h_=>h_.1))));(case side5=>exact (Kd.N_reads' HO886.out).2.1);rintro e w107 ⟨v888,rfl,ho0,hb⟩;have n0_:=aK_ (Kd.R_elder' (by refine aR_ ?_;exact (Kd.R_mono (Kd.R_far (p:=⟨gb858,3,none⟩) (Kd.R_types HO_12.out BK858.out (by decide)) (fun _ hk=>hk.2) (.slice Ao104 y884.length co104)) (fun _ h_=>h_.1))) (Kd.R_base ho0) hb);have n1_:=aK_ (Kd.R_below (by refine aR_ ?_;exact (Kd.R_mono (Kd.R_far (p:=⟨gb858,3,none⟩) (Kd.R_types HO_859001.out BK858.out (by decide)) (fun _ hk=>hk.2) (.slice Ao104 y884.length co104)) (fun _ h_=>h_.1))) hb);have n2_:=aK_ (Kd.N_elder' (by refine aN_ ?_;exact (Kd.N_mono (Kd.N_far (p:=⟨gb858,3,none⟩) (Kd.N_mono HO_859003.out (fun k_ hk=>(⟨hk,hk.1.2.2.2.2⟩:_∧k_≠gb858))) (fun _ hk=>hk.2) (.slice Ao104 y884.length co104)) (fun _ h_=>h_.1))) (Kd.R_base ho0) hb);have n3_:=aK_ (Kd.N_elder' (by refine aN_ ?_;exact (Kd.N_mono (Kd.N_far (p:=⟨gb858,3,none⟩) (Kd.N_mono HO886.out (fun k_ hk=>(⟨hk,hk.2.2.2.2.2⟩:_∧k_≠gb858))) (fun _ hk=>hk.2) (.slice Ao104 y884.length co104)) (fun _ h_=>h_.1))) (Kd.R_base ho0) hb);have n4_:=aK_ (Kd.R_lower (Kd.R_new' ho0 (Kd.R_lt (by refine aR_ ?_;exact (Kd.R_mono (Kd.R_far (p:=⟨gb858,3,none⟩) (Kd.R_types HO_12.out BK858.out (by decide)) (fun _ hk=>hk.2) (.slice Ao104 y884.length co104)) (fun _ h_=>h_.1))))) (zAD (aQ_ HB.out GE853.out GE854.out GE858.out)));have n5_:=aK_ (zAI (g:=gb853) (o:=.cells #[.int .i64 x854000_6,.int .i64 (wrap64 (Int.tmod (IntKind.u64.wrap (a0)) 4)),.int .i64 0,.int .i64 0,.slice none 0 0,.int .i64 0] 33 (0,0)) (by refine aB_ ?_;refine zAV ?_ NB853_858.out _;refine aB_ ?_;exact BK853.out) hb);have n6_:=aK_ (zAI (g:=gb854) (o:=.cells #[.int .i64 x855000_16,.int .i64 (wrap64 (Int.tmod (IntKind.u64.wrap (a1)) 4)),.int .i64 0,.int .i64 0,.slice none 0 0,.int .i64 0] 33 (0,0)) (by refine aB_ ?_;refine zAV ?_ NB854_858.out _;refine aB_ ?_;exact BK854.out) hb);have n7_:=aK_ (zAI (g:=gb858) (o:=.cells #[.string (⟨#[112]⟩:ByteArray),.slice Ao25 y855.length co25,.int .i64 0,.slice Ao104 y884.length co104] 25 (0,0)) (by refine aB_ ?_;refine zAN (cs:=#[.string (⟨#[112]⟩:ByteArray),.slice Ao25 y855.length co25,.int .i64 0,.slice Ao39 y862.length co39]) ?_ 3 _ rfl;refine aB_ ?_;exact BK858.out) hb);have n8_:=aK_ (zAH (aQ_ HB.out GE853.out GE854.out GE858.out) hb);clear HO_12;clear HO_859001;clear HO_859003;clear HO886;clear BK853;clear BK854;clear BK858;clear HB;have HO_12:=n0_;have HO_859001:=n1_;have HO_859003:=n2_;have HO886:=n3_;have HO889:=n4_;have BK853:=n5_;have BK854:=n6_;have BK858:=n7_;have HB:=n8_;clear n0_ n1_ n2_ n3_ n4_ n5_ n6_ n7_ n8_;(try clear hb);(try clear hb2);(try clear hk);(try clear hi);(try clear ho0))))
 go_ret
 exact ⟨by first|rfl|(simp [zAK,zAL] <;> rfl)|(simp [*,zAK,zAL] <;> rfl),aQ_ HB.out GE853.out GE854.out GE858.out⟩
end Go.Proofs.YthbnigjckjkmnaaDoor.S

namespace Go.Proofs.YthbnigjckjkmnaaDoor.S
open Go.RowKit Go.Proofs.YthbnigjckjkmnaaDoorW.PrintWords Go.Proofs.YthbnigjckjkmnaaDoorW.PrintLast Go.Proofs.YthbnigjckjkmnaaDoorW.PrintMore Go.Proofs.YthbnigjckjkmnaaDoor.Pure
abbrev bs (s : ByteArray) : List UInt8 := s.data.toList
theorem bs_len (s : ByteArray) : (bs s).length = s.size := by rw [bs, Array.length_toList]; rfl
theorem bt_nat (s : ByteArray) (i : Nat) (h : i < s.size) : bt s (i : Int) = (((bs s)[i]'(by rw [bs_len]; exact h)).toNat : Int) := by
  unfold bt
  rw [dif_pos (by simpa using h)]
  rfl
theorem bt_drop (s : ByteArray) (i : Nat) (h : i < s.size) : ∃ r, (bs s).drop i = (bs s)[i]'(by rw [bs_len]; exact h) :: r ∧ r = (bs s).drop (i + 1) :=
  ⟨_, List.drop_eq_getElem_cons (by rw [bs_len]; exact h), rfl⟩
theorem wrap_small {x : Int} (h0 : -9223372036854775808 ≤ x) (h1 : x ≤ 9223372036854775807) : wrap64 x = x := by unfold wrap64; omega
theorem runL_take_all (p : Int → Bool) (l : List UInt8) : ∀ c ∈ l.take (runL p l), p (c.toNat : Int) = true := by
  induction l with
  | nil => intro c hc; simp at hc
  | cons a r ih =>
    intro c hc
    by_cases h : p (a.toNat : Int) = true
    · simp only [runL, h, if_true, List.take_succ_cons, List.mem_cons] at hc
      rcases hc with rfl | hc
      · exact h
      · exact ih c hc
    · simp [runL, h] at hc
theorem letter_f (c : Int) : scan_letter.f c = some (isLetter c) := by
  unfold scan_letter.f isLetter
  by_cases h : c ≥ 97
  · rw [if_pos h]; simp [show (97 : Int) ≤ c from h]
  · rw [if_neg h]; simp [show ¬ (97 : Int) ≤ c from h]
def flatW : List (List UInt8) → List UInt8
  | [] => []
  | w :: ws => w ++ 32 :: flatW ws
theorem contains_cons (b : UInt8) (l n : List UInt8) : Lib.contains (b :: l) n = (n.isPrefixOf (b :: l) || Lib.contains l n) := by
  have hge := Lib.index_ge l n
  have hi : Lib.index (b :: l) n = (if n.isPrefixOf (b :: l) then 0 else if Lib.index l n == -1 then -1 else Lib.index l n + 1) := rfl
  rw [Bool.eq_iff_iff]
  unfold Lib.contains
  rw [Bool.or_eq_true, decide_eq_true_iff, decide_eq_true_iff, hi]
  by_cases hp : n.isPrefixOf (b :: l) = true
  · rw [if_pos hp]; simp [hp]
  · rw [if_neg hp]
    by_cases hx : Lib.index l n = -1
    · rw [hx]; simp [hp]
    · have : (Lib.index l n == -1) = false := by simpa using hx
      rw [this]
      simp only [Bool.false_eq_true, if_false]
      constructor
      · intro _; exact .inr (by omega)
      · intro _; omega
theorem pre_words (s w r : List UInt8) (hs : ∀ c ∈ s, c ≠ 32) (hw : ∀ c ∈ w, c ≠ 32) : (s ++ [32]).isPrefixOf (w ++ 32 :: r) = decide (s = w) := by
  induction s generalizing w with
  | nil =>
    cases w with
    | nil => simp [List.isPrefixOf]
    | cons b w =>
      have := hw b (by simp)
      simp [List.isPrefixOf, this]
      exact fun h => this h.symm
  | cons a s ih =>
    cases w with
    | nil =>
      have := hs a (by simp)
      simp [List.isPrefixOf, this]
    | cons b w =>
      have h1 := ih w (fun c hc => hs c (by simp [hc])) (fun c hc => hw c (by simp [hc]))
      simp only [List.cons_append, List.isPrefixOf, h1]
      by_cases hab : a = b
      · subst hab; simp
      · simp [hab]
theorem skip_word (w t n : List UInt8) (hw : ∀ c ∈ w, c ≠ 32) : Lib.contains (w ++ t) (32 :: n) = Lib.contains t (32 :: n) := by
  induction w with
  | nil => rfl
  | cons b w ih =>
    have hb := hw b (by simp)
    rw [List.cons_append, contains_cons, ih (fun c hc => hw c (by simp [hc]))]
    have : (32 :: n).isPrefixOf (b :: (w ++ t)) = false := by
      simp [List.isPrefixOf]
      exact fun h => absurd h.symm hb
    rw [this, Bool.false_or]
theorem contains_words (s : List UInt8) (ws : List (List UInt8)) (hs : ∀ c ∈ s, c ≠ 32) (hw : ∀ w ∈ ws, ∀ c ∈ w, c ≠ 32) :
    Lib.contains (32 :: flatW ws) (32 :: (s ++ [32])) = decide (s ∈ ws) := by
  induction ws with
  | nil =>
    rw [flatW, contains_cons]
    have h1 : (32 :: (s ++ [32])).isPrefixOf [32] = false := by
      cases s <;> simp [List.isPrefixOf]
    have h2 : Lib.contains [] (32 :: (s ++ [32])) = false := rfl
    rw [h1, h2]
    simp
  | cons w ws ih =>
    have h1 : (32 :: (s ++ [32])).isPrefixOf (32 :: (w ++ 32 :: flatW ws)) = decide (s = w) := by
      rw [List.isPrefixOf, pre_words s w _ hs (hw w (by simp))]
      simp
    rw [flatW, contains_cons, h1, skip_word w _ _ (hw w (by simp)), ih (fun v hv => hw v (by simp [hv]))]
    simp [Bool.decide_or]
def wordsL : List (List UInt8) := [[112, 108, 97, 110], [114, 111, 117, 110, 100], [98, 121], [98, 108, 111, 99, 107, 115], [109, 105, 110], [109, 97, 120], [111, 118, 101, 114], [117, 112, 116, 111], [103, 114, 97, 100, 117, 97, 116, 101, 100], [118, 111, 108, 117, 109, 101], [111, 102, 102], [105, 102], [102, 108, 111, 111, 114], [99, 101, 105, 108], [122, 101, 114, 111], [104, 97, 108, 102], [101, 118, 101, 110]]
theorem words_letters : ∀ w ∈ wordsL, w ≠ [] ∧ runL isLetter w = w.length := by decide
theorem words_blank : ∀ w ∈ wordsL, ∀ c ∈ w, c ≠ 32 := by decide
theorem runL_all (p : Int → Bool) (l : List UInt8) (h : runL p l = l.length) : ∀ c ∈ l, p (c.toNat : Int) = true := by
  have := runL_take_all p l
  rw [h, List.take_length] at this
  exact this
theorem word_f (s : ByteArray) (hs : s.size ≤ 140737488351232) : scan_Word.f s = some (decide (bs s ∈ wordsL)) := by
  unfold scan_Word.f
  rw [ByteArray.toList_eq]
  by_cases h0 : bs s = []
  · rw [if_pos h0]
    have : ¬ (bs s ∈ wordsL) := fun h => (words_letters _ h).1 h0
    rw [decide_eq_false this]
  · rw [if_neg h0]
    have hlen : ((⟨#[32]⟩ : ByteArray) ++ s).size = 1 + s.size := by rw [ByteArray.size_append]; rfl
    unfold scan_run_letter.f
    rw [if_pos (by omega), Option.bind_some]
    by_cases hr : runL isLetter (bs s) = s.size
    · rw [if_pos (by exact congrArg Int.ofNat hr), if_pos (by omega), if_pos (by omega)]
      unfold strings_Contains.f
      rw [if_pos (by decide), Option.bind_some]
      congr 1
      have hbs : (((⟨#[32]⟩ : ByteArray) ++ s) ++ (⟨#[32]⟩ : ByteArray)).data.toList = 32 :: (bs s ++ [32]) := by
        rw [ByteArray.data_append, ByteArray.data_append, Array.toList_append, Array.toList_append]
        rfl
      rw [hbs]
      exact contains_words (bs s) wordsL (fun c hc h => by
        have := runL_all isLetter (bs s) (by rw [hr, bs_len]) c hc
        subst h
        exact absurd this (by decide)) words_blank
    · rw [if_neg (by intro h; exact hr (Int.ofNat.inj h))]
      have : ¬ (bs s ∈ wordsL) := fun h => hr (by rw [(words_letters _ h).2, bs_len])
      rw [decide_eq_false this]
def nameB (l : List UInt8) : Bool := decide (0 < l.length) && decide (l.length ≤ 32) && (match l with | [] => false | c :: _ => isLetter (c.toNat : Int)) && decide (runL isInner l = l.length) && !decide (l ∈ wordsL)
theorem name_f (s : ByteArray) (hs : s.size ≤ 140737488351232) : scan_Name.f s = some (nameB (bs s)) := by
  have hbl := bs_len s
  unfold scan_Name.f nameB
  rw [ByteArray.toList_eq]
  by_cases h0 : bs s = []
  · rw [if_pos h0, h0]; rfl
  · have hpos : 0 < s.size := by rw [← hbl]; exact List.length_pos_iff.2 h0
    rw [if_neg h0, hbl, decide_eq_true hpos, Bool.true_and]
    by_cases h32 : s.size ≤ 32
    · have hb := bt_nat s 0 hpos
      obtain ⟨r, hr, _⟩ := bt_drop s 0 hpos
      rw [List.drop_zero] at hr
      have hb' : bt s 0 = (((bs s)[0]'(by rw [hbl]; exact hpos)).toNat : Int) := hb
      rw [if_pos (by omega), if_pos (by omega), letter_f, Option.bind_some, decide_eq_true h32, Bool.true_and, hb']
      have hm : (match bs s with | [] => false | c :: _ => isLetter (c.toNat : Int)) = isLetter (((bs s)[0]'(by rw [hbl]; exact hpos)).toNat : Int) := by
        generalize (bs s)[0]'(by rw [hbl]; exact hpos) = c at hr ⊢
        rw [hr]
      rw [hm]
      cases hl : isLetter (((bs s)[0]'(by rw [hbl]; exact hpos)).toNat : Int) with
      | false => rw [if_neg (by decide)]; simp
      | true =>
        rw [if_pos rfl, word_f s hs]
        unfold scan_run_inner.f
        rw [if_pos (by omega), Option.bind_some, Option.bind_some, Bool.true_and]
        by_cases hr : runL isInner (bs s) = s.size
        · rw [if_pos (by exact congrArg Int.ofNat hr), decide_eq_true hr, Bool.true_and]
        · rw [if_neg (by intro h; exact hr (Int.ofNat.inj h)), decide_eq_false hr]; rfl
    · rw [if_neg (by omega), decide_eq_false h32]; simp
end Go.Proofs.YthbnigjckjkmnaaDoor.S

namespace Go.Proofs.YthbnigjckjkmnaaDoor.S
open Go.RowKit Go.Proofs.YthbnigjckjkmnaaDoorW.PrintWords Go.Proofs.YthbnigjckjkmnaaDoorW.PrintLast Go.Proofs.YthbnigjckjkmnaaDoorW.PrintMore Go.Proofs.YthbnigjckjkmnaaDoor.Pure
abbrev Nd := S33
abbrev Dm := S47
abbrev Tr := S45
theorem Ev.ifp {α : Type} {c : Prop} [Decidable c] {g f : Nat → Option α} {r : α} (hc : c) (h : Ev g r) : Ev (fun k => if c then g k else f k) r := by
  simp only [if_pos hc]; exact h
theorem Ev.ifn {α : Type} {c : Prop} [Decidable c] {g f : Nat → Option α} {r : α} (hc : ¬ c) (h : Ev f r) : Ev (fun k => if c then g k else f k) r := by
  simp only [if_neg hc]; exact h
theorem Ev.both {α : Type} {g : Nat → Option α} {r s : α} (h : Ev g r) (e : r = s) : Ev g s := e ▸ h
theorem Ev.pre {α β : Type} {o : Option β} {f : Nat → β → Option α} {b : β} {r : α} (h : o = some b) (k : Ev (fun n => f n b) r) : Ev (fun n => o.bind (f n)) r := by
  subst h
  exact k
theorem rdN (l : List Nd) (i : Nat) (h : i < l.length) : zAC l (i : Int) = l[i] := by simp [zAC, List.getD_eq_getElem?_getD, List.getElem?_eq_getElem h]
theorem rdT (l : List Tr) (i : Nat) (h : i < l.length) : zAS l (i : Int) = l[i] := by simp [zAS, List.getD_eq_getElem?_getD, List.getElem?_eq_getElem h]
theorem rdI (l : List Int) (i : Nat) (h : i < l.length) : rd l (i : Int) = l[i] := by simp [rd, List.getD_eq_getElem?_getD, List.getElem?_eq_getElem h]
theorem w_up (i : Nat) (h : i ≤ 140737488351232) : wrap64 ((i : Int) + 1) = ((i + 1 : Nat) : Int) := by unfold wrap64; omega
theorem Ev.ite2 {α : Type} {c : Prop} [Decidable c] {g f : Nat → Option α} {r s : α} (h : Ev g r) (h' : Ev f s) : Ev (fun k => if c then g k else f k) (if c then r else s) := by
  by_cases hc : c
  · rw [if_pos hc]; exact Ev.ifp hc h
  · rw [if_neg hc]; exact Ev.ifn hc h'
theorem Ev.ite3 {α : Type} {c : Prop} [Decidable c] {g f : Nat → Option α} {r s : α} (h : c → Ev g r) (h' : ¬ c → Ev f s) : Ev (fun k => if c then g k else f k) (if c then r else s) := by
  by_cases hc : c
  · rw [if_pos hc]; exact Ev.ifp hc (h hc)
  · rw [if_neg hc]; exact Ev.ifn hc (h' hc)
theorem w_len (n : Nat) (h : n ≤ 140737488351232) : wrap64 (n : Int) = n := wrap_small (by omega) (by omega)
def riseL : Option Int → List Tr → Bool
  | _, [] => true
  | p, t :: r => if (match p with | none => false | some q => decide (t.f0 ≤ q)) = true then false else if t.f0 > 1000000000000 then false else if t.f1 < -1000000000000 then false else if t.f1 > 1000000000000 then false else riseL (some t.f0) r
theorem riseL_none (t : Tr) (r : List Tr) : riseL none (t :: r) = if t.f0 > 1000000000000 then false else if t.f1 < -1000000000000 then false else if t.f1 > 1000000000000 then false else riseL (some t.f0) r := by
  rw [riseL]; exact if_neg (by decide)
theorem riseL_some (q : Int) (t : Tr) (r : List Tr) : riseL (some q) (t :: r) = if t.f0 ≤ q then false else if t.f0 > 1000000000000 then false else if t.f1 < -1000000000000 then false else if t.f1 > 1000000000000 then false else riseL (some t.f0) r := by
  rw [riseL]; simp only [decide_eq_true_eq]
def prevT (l : List Tr) : Nat → Option Int
  | 0 => none
  | j + 1 => (l[j]?).map (·.f0)
theorem prevT_succ (l : List Tr) (i : Nat) (h : i < l.length) : prevT l (i + 1) = some l[i].f0 := by simp [prevT, List.getElem?_eq_getElem h]
def riseB (l : List Tr) : Bool := if (l.length : Int) < 1 then false else if (l.length : Int) > 16 then false else if ((zAS l 0).f0 != 0) = true then false else riseL none l
theorem rising_l0 (l : List Tr) (hl : l.length ≤ 140737488351232) (d : Nat) : ∀ i, i + d = l.length → Ev (fun k => tree_rising.l0 k l l (l.length : Int) (i : Int)) (riseL (prevT l i) (l.drop i)) := by
  induction d with
  | zero =>
    intro i hi
    rw [List.drop_of_length_le (by omega)]
    refine Ev.step (f := fun _ => some true) (fun k => by simp only [tree_rising.l0]; rw [if_neg (by omega)]) ?_
    exact Ev.now _
  | succ d ih =>
    intro i hi
    have h : i < l.length := by omega
    have hn := ih (i + 1) (by omega)
    rw [prevT_succ l i h] at hn
    rw [List.drop_eq_getElem_cons h]
    refine Ev.step (fun k => by simp only [tree_rising.l0]; rw [if_pos (by omega), if_pos (by omega), if_pos (by omega), rdT l i h, w_up i (by omega)]) ?_
    cases i with
    | zero =>
      rw [show prevT l 0 = none from rfl, riseL_none]
      refine Ev.ifn (by simp) ?_
      exact Ev.ite2 (Ev.now _) (Ev.ite2 (Ev.now _) (Ev.ite2 (Ev.now _) hn))
    | succ j =>
      refine Ev.ifp (by omega) ?_
      rw [show ((j + 1 : Nat) : Int) - 1 = (j : Int) by omega, w_len j (by omega), rdT l j (by omega)]
      refine Ev.ifp (by omega) (Ev.ifp (by omega) ?_)
      rw [prevT_succ l j (by omega), riseL_some]
      exact Ev.ite2 (Ev.now _) (Ev.ite2 (Ev.now _) (Ev.ite2 (Ev.now _) (Ev.ite2 (Ev.now _) hn)))
theorem rising_ev (l : List Tr) (hl : l.length ≤ 140737488351232) : Ev (fun k => tree_rising.f k l) (riseB l) := by
  unfold riseB
  have h0 := rising_l0 l hl l.length 0 (by omega)
  refine Ev.ite3 (fun _ => ?_) (fun h1 => Ev.ite2 ?_ ?_)
  · exact Ev.step (f := fun _ => some false) (fun k => by simp [tree_rising.j0]) (Ev.now _)
  · exact Ev.step (f := fun _ => some false) (fun k => by simp [tree_rising.j0]) (Ev.now _)
  · refine Ev.ifp (by omega) (Ev.step (fun k => by simp only [tree_rising.j0]; rfl) ?_)
    exact Ev.ite2 (Ev.now _) h0
theorem kind_cases (c : Int) : (c < 1 ∨ c > 16) ∨ c = 1 ∨ c = 2 ∨ c = 3 ∨ c = 4 ∨ c = 5 ∨ c = 6 ∨ c = 7 ∨ c = 8 ∨ c = 9 ∨ c = 10 ∨ c = 11 ∨ c = 12 ∨ c = 13 ∨ c = 14 ∨ c = 15 ∨ c = 16 := by omega
def tkOf (n : Nd) : Int := if tk n.f0 ≥ 0 then tk n.f0 else n.f3
theorem takes_f (n : Nd) (h : 1 ≤ n.f0 ∧ n.f0 ≤ 16) : tree_takes.f n.f0 n.f1 n.f2 n.f3 n.f4 n.f5 = some (tkOf n) := by
  unfold tree_takes.f tkOf
  rw [if_pos (by omega)]
def mostB (c dims : Int) : Int := if mo c < 0 then wrap64 (dims - 1) else mo c
def fieldsB (n : Nd) (dims : Int) : Bool :=
  !decide (n.f1 < 0) && (!decide (n.f1 > mostB n.f0 dims) && ((if op n.f0 = true then decide (n.f2 ≥ 1) && decide (n.f2 ≤ 6) else n.f2 == 0) && ((if tk n.f0 < 0 then decide (n.f3 ≥ 2) && decide (n.f3 ≤ 16) else n.f3 == 0) && (ti n.f0 || decide (¬ 0 < n.f4.length)))))
theorem bad_eq (n : Nd) (dims pile : Int) (h : 1 ≤ n.f0 ∧ n.f0 ≤ 16) : nodeBad n.f0 n.f1 n.f2 n.f3 n.f4.length dims pile = (!fieldsB n dims || decide (pile < tkOf n)) := by
  unfold nodeBad fieldsB tkOf mostB
  cases (decide (n.f1 < 0)) <;> cases (decide (n.f1 > if mo n.f0 < 0 then wrap64 (dims - 1) else mo n.f0)) <;> cases (if tk n.f0 < 0 then decide (n.f3 ≥ 2) && decide (n.f3 ≤ 16) else n.f3 == 0) <;> cases (if op n.f0 = true then decide (n.f2 ≥ 1) && decide (n.f2 ≤ 6) else n.f2 == 0) <;> cases (ti n.f0) <;> by_cases hq : 0 < n.f4.length <;> simp [hq]
def nodeErr (n : Nd) (dims pile : Int) : Int :=
  if n.f0 < 1 ∨ n.f0 > 16 then 50 else if nodeBad n.f0 n.f1 n.f2 n.f3 n.f4.length dims pile = true then 50 else if ti n.f0 = true then (if riseB n.f4 = true then 0 else 51) else 0
theorem node_ev (n : Nd) (hl : n.f4.length ≤ 140737488351232) (dims pile : Int) : Ev (fun k => tree_node.f k n.f0 n.f1 n.f2 n.f3 n.f4 n.f5 dims pile) (nodeErr n dims pile) := by
  unfold tree_node.f nodeErr
  refine Ev.ite2 (Ev.now _) (Ev.ite2 (Ev.now _) (Ev.ite2 ?_ (Ev.now _)))
  exact Ev.bind (rising_ev n.f4 hl) (Ev.now _)
theorem node_ok {n : Nd} {dims pile : Int} (h : nodeErr n dims pile = 0) : (1 ≤ n.f0 ∧ n.f0 ≤ 16) ∧ fieldsB n dims = true ∧ tkOf n ≤ pile ∧ 0 ≤ tkOf n := by
  unfold nodeErr at h
  by_cases h1 : n.f0 < 1 ∨ n.f0 > 16
  · rw [if_pos h1] at h; omega
  · rw [if_neg h1] at h
    have h2 : 1 ≤ n.f0 ∧ n.f0 ≤ 16 := by omega
    rw [bad_eq n dims pile h2] at h
    cases hf : fieldsB n dims with
    | false => simp [hf] at h
    | true =>
      by_cases h3 : pile < tkOf n
      · simp [h3] at h
      · refine ⟨h2, rfl, by omega, ?_⟩
        unfold tkOf
        split
        · assumption
        · rename_i h4
          unfold fieldsB at hf
          simp only [Bool.and_eq_true] at hf
          have h5 := hf.2.2.2.1
          rw [if_pos (by omega)] at h5
          simp at h5
          omega
def checkL (dims : Int) (tot : Nat) : List Nd → Nat → Int → Int × Int
  | [], _, pile => if pile = 1 then (0, 0) else ((tot : Int), 50)
  | n :: r, i, pile => if nodeErr n dims pile = 0 then checkL dims tot r (i + 1) (pile + (1 - tkOf n)) else ((i : Int), nodeErr n dims pile)
theorem check_l0 (a0 : ByteArray) (l1 : List Dm) (a2 : Int) (l3 : List Nd) (hl : l3.length ≤ 140737488351232) (ht : ∀ n ∈ l3, n.f4.length ≤ 140737488351232) (d : Nat) : ∀ (i : Nat) (pile : Int), i + d = l3.length → 0 ≤ pile → pile ≤ i →
    Ev (fun k => tree_Check.l0 k pile l3 (l3.length : Int) (i : Int) a0 l1 a2 l3) (checkL l1.length l3.length (l3.drop i) i pile) := by
  induction d with
  | zero =>
    intro i pile hi h0 h1
    rw [List.drop_of_length_le (by omega)]
    refine Ev.step (fun k => by simp only [tree_Check.l0]; rw [if_neg (by omega)]) ?_
    exact Ev.ite2 (Ev.now _) (Ev.now _)
  | succ d ih =>
    intro i pile hi h0 h1
    have h : i < l3.length := by omega
    rw [List.drop_eq_getElem_cons h]
    have hn := node_ev l3[i] (ht _ (List.getElem_mem h)) (l1.length : Int) pile
    refine Ev.step (fun k => by simp only [tree_Check.l0]; rw [if_pos (by omega), if_pos (by omega), if_pos (by omega), rdN l3 i h, w_up i (by omega)]) ?_
    refine Ev.bind hn ?_
    unfold checkL
    refine Ev.ite3 (fun he => ?_) (fun _ => Ev.now _)
    obtain ⟨hk, _, hp, hp0⟩ := node_ok he
    refine Ev.pre (takes_f _ hk) ?_
    rw [wrap_small (x := 1 - tkOf l3[i]) (by omega) (by omega), wrap_small (by omega) (by omega)]
    exact ih (i + 1) _ (by omega) (by omega) (by omega)
def anyN (nm : ByteArray) (xs : List Dm) : Bool := xs.any fun e => e.f0.toList == nm.toList
def dimsS (pre : List Dm) : List Dm → Int
  | [] => 0
  | d :: r => if nameB (bs d.f0) = true then (if anyN d.f0 pre = true then 61 else if d.f1 < 1 ∨ d.f1 > 1000000000000 then 50 else dimsS (pre ++ [d]) r) else 61
def headE (a0 : ByteArray) (l1 : List Dm) (a2 : Int) : Int :=
  if nameB (bs a0) = true then (if (l1.length : Int) < 1 ∨ (l1.length : Int) > 4 then 100 else if dimsS [] l1 = 0 then (if a2 < 0 ∨ a2 > 4 then 50 else 0) else dimsS [] l1) else 61
theorem idxL_any (nm : ByteArray) (xs : List Dm) : ∀ n : Int, 0 ≤ n → (idxL nm xs n ≥ 0 ↔ anyN nm xs = true) := by
  induction xs with
  | nil => intro n hn; simp [idxL, anyN]
  | cons d r ih =>
    intro n hn
    rw [idxL]
    by_cases h : (d.f0.toList == nm.toList) = true
    · rw [if_pos h]
      simp only [anyN, List.any_cons, h, Bool.true_or, iff_true]
      exact hn
    · rw [if_neg h, ih (n + 1) (by omega)]
      simp only [anyN, List.any_cons]
      rw [show (d.f0.toList == nm.toList) = false by simpa using h, Bool.false_or]
theorem dimsL_eq (xs : List Dm) : ∀ (pre : List Dm), (∀ d ∈ xs, d.f0.size ≤ 140737488351232) → dimsL pre xs = some (dimsS pre xs) := by
  induction xs with
  | nil => intro pre h; rfl
  | cons d r ih =>
    intro pre h
    rw [dimsL, dimsS, name_f _ (h d (List.mem_cons_self))]
    simp only [Option.bind_some]
    by_cases h1 : nameB (bs d.f0) = true
    · rw [if_pos h1, if_pos h1]
      have h2 := idxL_any d.f0 pre 0 (by omega)
      by_cases h3 : anyN d.f0 pre = true
      · rw [if_pos h3, if_pos (h2.2 h3)]
      · rw [if_neg h3, if_neg (fun q => h3 (h2.1 q))]
        by_cases h4 : d.f1 < 1 ∨ d.f1 > 1000000000000
        · rw [if_pos h4, if_pos h4]
        · rw [if_neg h4, if_neg h4]
          exact ih _ (fun e he => h e (List.mem_cons_of_mem _ he))
    · rw [if_neg h1, if_neg h1]
theorem head_ev (a0 : ByteArray) (l1 : List Dm) (a2 : Int) (l3 : List Nd) (h0 : a0.size ≤ 140737488351232) (h1 : ∀ d ∈ l1, d.f0.size ≤ 140737488351232) : Ev (fun k => tree_head.f k a0 l1 a2 l3) (headE a0 l1 a2) := by
  unfold tree_head.f headE
  refine Ev.pre (name_f a0 h0) ?_
  refine Ev.ite2 (Ev.ite2 (Ev.now _) ?_) (Ev.now _)
  refine Ev.pre (dimsL_eq l1 [] h1) ?_
  unfold modeE
  exact Ev.ite2 (Ev.ite2 (Ev.now _) (Ev.now _)) (Ev.now _)
structure PB (a0 : ByteArray) (l1 : List Dm) (l3 : List Nd) : Prop where
  name : a0.size ≤ 140737488351232
  dims : l1.length ≤ 140737488351232
  names : ∀ d ∈ l1, d.f0.size ≤ 140737488351232
  nodes : l3.length ≤ 140737488351232
  tiers : ∀ n ∈ l3, n.f4.length ≤ 140737488351232
def chk (a0 : ByteArray) (l1 : List Dm) (a2 : Int) (l3 : List Nd) : Int × Int :=
  if headE a0 l1 a2 = 0 then (if (l3.length : Int) > 1024 then (1024, 2) else checkL l1.length l3.length l3 0 0) else (-1, headE a0 l1 a2)
theorem check_ev {a0 : ByteArray} {l1 : List Dm} (a2 : Int) {l3 : List Nd} (h : PB a0 l1 l3) : Ev (fun k => tree_Check.f k a0 l1 a2 l3) (chk a0 l1 a2 l3) := by
  unfold tree_Check.f chk
  refine Ev.bind (head_ev a0 l1 a2 l3 h.name h.names) (Ev.ite2 (Ev.ite2 (Ev.now _) ?_) (Ev.now _))
  have := check_l0 a0 l1 a2 l3 h.nodes h.tiers l3.length 0 0 (by omega) (by omega) (by omega)
  exact this
end Go.Proofs.YthbnigjckjkmnaaDoor.S

namespace Go.Proofs.YthbnigjckjkmnaaDoor.S
open Go.RowKit Go.Proofs.YthbnigjckjkmnaaDoorW.PrintWords Go.Proofs.YthbnigjckjkmnaaDoorW.PrintLast Go.Proofs.YthbnigjckjkmnaaDoorW.PrintMore Go.Proofs.YthbnigjckjkmnaaDoor.Pure
theorem checkL_ok (dims : Int) (tot : Nat) (l : List Nd) : ∀ (i : Nat) (pile : Int), (checkL dims tot l i pile).2 = 0 → checkL dims tot l i pile = (0, 0) := by
  induction l with
  | nil =>
    intro i pile h
    unfold checkL at h ⊢
    split at h
    · rename_i hp; rw [if_pos hp]
    · cases h
  | cons n r ih =>
    intro i pile h
    unfold checkL at h ⊢
    split at h
    · rename_i hp; rw [if_pos hp]; exact ih _ _ h
    · rename_i hp; exact absurd h hp
theorem chk_ok {a0 : ByteArray} {l1 : List Dm} {a2 : Int} {l3 : List Nd} (h : (chk a0 l1 a2 l3).2 = 0) : headE a0 l1 a2 = 0 ∧ l3.length ≤ 1024 ∧ checkL l1.length l3.length l3 0 0 = (0, 0) ∧ chk a0 l1 a2 l3 = (0, 0) := by
  unfold chk at h ⊢
  split at h
  · rename_i h1
    split at h
    · cases h
    · rename_i h2
      have := checkL_ok _ _ _ _ _ h
      refine ⟨h1, by omega, this, ?_⟩
      rw [if_pos h1, if_neg h2, this]
  · rename_i h1
    exact absurd h h1
theorem checkL_step {dims : Int} {tot : Nat} {n : Nd} {r : List Nd} {i : Nat} {pile : Int} (h : checkL dims tot (n :: r) i pile = (0, 0)) :
    nodeErr n dims pile = 0 ∧ checkL dims tot r (i + 1) (pile + (1 - tkOf n)) = (0, 0) := by
  unfold checkL at h
  split at h
  · rename_i hp; exact ⟨hp, h⟩
  · rename_i hp
    simp only [Prod.mk.injEq] at h
    exact absurd h.2 hp
def frL : List Nd → Nat → List Int → List Int → List Int
  | [], _, acc, _ => acc
  | n :: r, i, acc, pile => if tkOf n > 0 then frL r (i + 1) (acc ++ [pile.getD ((pile.length : Int) - tkOf n).toNat 0]) (pile.take ((pile.length : Int) - tkOf n).toNat ++ [pile.getD ((pile.length : Int) - tkOf n).toNat 0]) else frL r (i + 1) (acc ++ [(i : Int)]) (pile ++ [(i : Int)])
theorem firsts_l0 (dims : Int) (l3 : List Nd) (hl : l3.length ≤ 1024) (d : Nat) : ∀ (i : Nat) (acc pile : List Int), i + d = l3.length → acc.length = i → pile.length ≤ i → checkL dims l3.length (l3.drop i) i pile.length = (0, 0) →
    Ev (fun k => tree_firsts.l0 k acc pile l3 (l3.length : Int) (i : Int)) (frL (l3.drop i) i acc pile) := by
  induction d with
  | zero =>
    intro i acc pile hi ha hp hc
    rw [List.drop_of_length_le (by omega)]
    exact Ev.step (f := fun _ => some acc) (fun k => by simp only [tree_firsts.l0]; rw [if_neg (by omega)]) (Ev.now _)
  | succ d ih =>
    intro i acc pile hi ha hp hc
    have h : i < l3.length := by omega
    rw [List.drop_eq_getElem_cons h] at hc ⊢
    obtain ⟨he, hc'⟩ := checkL_step hc
    obtain ⟨hk, _, hp1, hp0⟩ := node_ok he
    refine Ev.step (fun k => by simp only [tree_firsts.l0]; rw [if_pos (by omega), if_pos (by omega), if_pos (by omega), rdN l3 i h, w_up i (by omega)]) ?_
    refine Ev.pre (takes_f _ hk) ?_
    have hnext := fun acc' pile' => ih (i + 1) acc' pile' (by omega)
    generalize l3[i] = n at *
    unfold frL
    by_cases h0 : tkOf n > 0
    · rw [if_pos h0]
      obtain ⟨m, hm⟩ := Int.eq_ofNat_of_zero_le (show 0 ≤ (pile.length : Int) - tkOf n by omega)
      have hw : wrap64 (m : Int) = (m : Int) := w_len m (by omega)
      simp only [hm, hw]
      have hml : m < pile.length := by omega
      refine Ev.ifp h0 (Ev.ifp (by omega) (Ev.ifp (by omega) (Ev.ifp (by omega) ?_)))
      refine Ev.pre rfl ?_
      have htk : (pile.take m).length = m := by rw [List.length_take]; omega
      refine Ev.ifp (by rw [Int.toNat_natCast, htk]; omega) (Ev.ifp (by omega) ?_)
      simp only [Int.toNat_natCast]
      have hg : rd pile (m : Int) = pile.getD m 0 := by simp [rd]
      rw [hg]
      refine hnext _ _ (by simp; omega) (by simp; omega) ?_
      rw [← hc']
      congr 1
      simp only [List.length_append, htk, List.length_cons, List.length_nil]
      omega
    · rw [if_neg h0]
      have hz : tkOf n = 0 := by omega
      refine Ev.ifn h0 (Ev.ifp (by omega) (Ev.ifp (by omega) ?_))
      refine hnext _ _ (by simp; omega) (by simp; omega) ?_
      rw [← hc', hz]
      congr 1
      simp
def frs (l3 : List Nd) : List Int := frL l3 0 [] []
theorem firsts_ev {a0 : ByteArray} {l1 : List Dm} (a2 : Int) {l3 : List Nd} (h : PB a0 l1 l3) : Ev (fun k => tree_Firsts.f k a0 l1 a2 l3) (if (chk a0 l1 a2 l3).2 = 0 then (frs l3, 0) else ([], (chk a0 l1 a2 l3).2)) := by
  unfold tree_Firsts.f
  refine Ev.bind (check_ev a2 h) (Ev.ite3 (fun hc => ?_) (fun _ => Ev.now _))
  obtain ⟨_, hl, hc', _⟩ := chk_ok hc
  refine Ev.bind (g := fun k => tree_firsts.f k a0 l1 a2 l3) (a := frs l3) ?_ (Ev.now _)
  exact firsts_l0 (l1.length : Int) l3 hl l3.length 0 [] [] (by omega) rfl (by simp) hc'
def five : List Nd := [(⟨3, 0, 0, 0, [], 0⟩ : Nd), (⟨2, 3, 0, 0, [], 0⟩ : Nd), (⟨8, 0, 0, 0, [], 0⟩ : Nd), (⟨2, 5, 0, 0, [], 0⟩ : Nd), (⟨6, 0, 0, 0, [], 0⟩ : Nd)]
def fiveD : List Dm := [(⟨(⟨#[97]⟩ : ByteArray), 1⟩ : Dm)]
theorem five_PB : PB (⟨#[112]⟩ : ByteArray) fiveD five := ⟨by decide, by decide, by intro d hd; simp [fiveD] at hd; subst hd; decide, by decide, by intro n hn; simp [five] at hn; rcases hn with rfl | rfl | rfl | rfl | rfl <;> decide⟩
end Go.Proofs.YthbnigjckjkmnaaDoor.S
