/- What the proof needs, part 13 of 20. DeciBack answers true for every wide, number and string; the input reads as it did. -/
import Derived.Test.YtkikekiokclmdaaDoorBDeciBack5
import Derived.Test.YtkikekiokclmdaaDoorBDeciBack8
import Derived.Test.YtkikekiokclmdaaDoorBDeciBack9
import Derived.Test.YtkikekiokclmdaaDoorBDeciBack11
import Derived.Test.YtkikekiokclmdaaDoorBDeciBack12
import Derived.Test.YtkikekiokclmdaaDoorBDeciBack6
set_option linter.unusedVariables false
set_option linter.unusedSimpArgs false
namespace Go.Proofs.YtkikekiokclmdaaDoor.S
open Go.RowKit Go.Proofs.YtkikekiokclmdaaDoorW.PrintWords Go.Proofs.YtkikekiokclmdaaDoorW.PrintLast Go.Proofs.YtkikekiokclmdaaDoorW.PrintMore
attribute [local go_sem] max2_int min2_int max_two min_two max_three min_three max_four min_four
attribute [local go_sem high] eqA27
def zAQ.f (k:Nat)  : Option (Bool):=(zAM.f k (⟨#[45,49,53]⟩:ByteArray)).bind fun bt236=>((deci_Coins.f (⟨#[49,50,46,51,48]⟩:ByteArray)).bind fun bt240=>(if bt236.2.2=0 then (if bt240.2=0 then ((wide_Of.f (-15)).bind fun bt242=>(if (bt236.1 == bt242.1 && (bt236.2.1 == bt242.2))=true then (if bt240.1=1230 then ((wide_Of.f (-15)).bind fun bt244=>((deci_Text.f k bt244.1 bt244.2).bind fun t246=>(if t246.toList=([45,49,53]:List UInt8) then ((deci_Money.f k (-5)).bind fun t247=>(some (t247.toList == ([45,48,46,48,53]:List UInt8)))) else (some false)))) else (some false)) else (some false))) else (some false)) else (some false)))
theorem zAQ.mono:∀ k,LeO (zAQ.f k ) (zAQ.f (k+1) ):=by
 intro  k
 unfold zAQ.f
 repeat' first
   |(with_reducible exact deci_Money.mono _ _)
   |(with_reducible exact zAM.mono _ _)
   |(with_reducible exact deci_Text.mono _ _ _)
   |(with_reducible exact LeO.refl _)
   |(with_reducible exact LeO.none _)
   |(with_reducible refine LeO.ite ?_ ?_)
   |(with_reducible refine LeO.bind ?_ (fun _=>?_))
   |exact deci_Money.mono _ _
   |exact zAM.mono _ _
   |exact deci_Text.mono _ _ _
   |exact LeO.none _
   |refine LeO.ite ?_ ?_
   |refine LeO.bind ?_ (fun _=>?_)
def zAQ.T3:Bool × List (List Nat × List Nat):=(true,[([],[]),([0],[0]),([1],[1]),([2],[2]),([3,2],[2,3]),([2,4],[2,4]),([5,2],[5]),([6],[6]),([6,6],[6]),([7,8,6],[6,7,8]),([6,9],[6,9]),([10,8],[10]),([11],[11]),([12,11],[11,12]),([11,13],[11,13]),([14,11],[14]),([15,15],[15]),([16,16,15],[15,16]),([17,15],[15,17]),([15,18],[15,18]),([19,17],[19]),([20,20],[20]),([21,20],[20,21]),([20,22],[20,22]),([23,21,0,1,2,3,4,5,6,7,8,9,10,11,12,13,14,15,16,17,18,19,20,21,22,23],[23])])
def zAQ.B3:List Nat:=[0,1,3,7,15,31,63,127,127,511,1023,2047,4095,8191,16383,32767,65535,131071,262143,524287,1048575,2097151,4194303,8388607,16777215]
theorem zAQ.tab3:rtab .any (opsOf Tryd.f7 3)=zAQ.T3:=by kernel_rfl
theorem zAQ.bits3:waitsOk zAQ.T3.2 zAQ.B3=true:=by kernel_rfl
set_option maxHeartbeats 8000000 in
set_option maxRecDepth 100000 in
theorem zAQ.calls (k:Nat)  (r:Bool) (w:World) (hG:GW w) (h:zAQ.f k  = some r) :
  Calls Tryd.prog 7 #[] w fun e w'=>e = .returned (.bool r)∧Below w.heap.size w w':=by
 have hu27:=Tryd.underlying27
 have HB:=aK_ (Below.refl w.heap.size w)
 have H:((zAM.f k (⟨#[45,49,53]⟩:ByteArray)).bind fun bt236=>((deci_Coins.f (⟨#[49,50,46,51,48]⟩:ByteArray)).bind fun bt240=>(if bt236.2.2=0 then (if bt240.2=0 then ((wide_Of.f (-15)).bind fun bt242=>(if (bt236.1 == bt242.1 && (bt236.2.1 == bt242.2))=true then (if bt240.1=1230 then ((wide_Of.f (-15)).bind fun bt244=>((deci_Text.f k bt244.1 bt244.2).bind fun t246=>(if t246.toList=([45,49,53]:List UInt8) then ((deci_Money.f k (-5)).bind fun t247=>(some (t247.toList == ([45,48,46,48,53]:List UInt8)))) else (some false)))) else (some false)) else (some false))) else (some false)) else (some false))))=some r:=h
 clear h
 replace H:=Option.bind_eq_some_iff.mp H
 obtain ⟨⟨t236,t237,t238⟩,A10,H⟩:=H
 replace H:((deci_Coins.f (⟨#[49,50,46,51,48]⟩:ByteArray)).bind fun bt240=>(if t238=0 then (if bt240.2=0 then ((wide_Of.f (-15)).bind fun bt242=>(if (t236 == bt242.1 && (t237 == bt242.2))=true then (if bt240.1=1230 then ((wide_Of.f (-15)).bind fun bt244=>((deci_Text.f k bt244.1 bt244.2).bind fun t246=>(if t246.toList=([45,49,53]:List UInt8) then ((deci_Money.f k (-5)).bind fun t247=>(some (t247.toList == ([45,48,46,48,53]:List UInt8)))) else (some false)))) else (some false)) else (some false))) else (some false)) else (some false)))=some r:=H
 have A1:=aK_ A10
 clear A10
 replace H:=Option.bind_eq_some_iff.mp H
 obtain ⟨⟨t240,t241⟩,A20,H⟩:=H
 replace H:(if t238=0 then (if t241=0 then ((wide_Of.f (-15)).bind fun bt242=>(if (t236 == bt242.1 && (t237 == bt242.2))=true then (if t240=1230 then ((wide_Of.f (-15)).bind fun bt244=>((deci_Text.f k bt244.1 bt244.2).bind fun t246=>(if t246.toList=([45,49,53]:List UInt8) then ((deci_Money.f k (-5)).bind fun t247=>(some (t247.toList == ([45,48,46,48,53]:List UInt8)))) else (some false)))) else (some false)) else (some false))) else (some false)) else (some false))=some r:=H
 have A2:=aK_ A20
 clear A20
 by_cases c3:t238=0
 rotate_left
 ·rw [if_neg c3] at H
  have c3b0:(t238 == 0)=false:=beq_eq_false_iff_ne.mpr c3
  have c3b1:(t238 != 0)=true:=bne_iff_ne.mpr c3
  obtain rfl:=Option.some.inj H
  go_enter Tryd.func7,Tryd.ntmps7
  try go_wp2_with (first|((with_reducible refine zAL (f:=10) rfl ?_);refine goesL_ (some 6) rfl rfl Tryd.func10 (by kernel_rfl) rfl #[.string (⟨#[45,49,53]⟩:ByteArray)] rfl aM_ ?_;(with_reducible refine (zAM.calls k (⟨#[45,49,53]⟩:ByteArray) t236 t237 t238 _ A1.out).mono ?_);rintro e w46 ⟨rfl,hb⟩;refine ⟨_,rfl,?_⟩;have n0_:=aK_ (zAD (aH_ HB.out) hb);clear HB;have HB:=n0_;clear n0_;(try clear hb);(try clear hb2);(try clear hk);(try clear hi))|((with_reducible refine gate_dst (N:=1) rfl ?_);refine zAS ?hg (N:=1) ?hd (cs:=#[.int .i64 0,.int .u64 0]) (t:=27) ?hr ?_;(case hd=>rfl);(case hg=>rfl);(case hr=>first|(go_simp;done)|(go_simp;rfl));intro gb239 hg w47 hbox hb;have n0_:=aK_ (zAD (aH_ HB.out) hb);have n1_:=aK_ (hbox);have n2_:=aK_ ((by rw [hg];exact (zAE (aH_ HB.out)):w.heap.size≤gb239));have n3_:=aK_ ((by rw [hg];exact (zAE (aH_ HB.out)):w.heap.size≤gb239));clear HB;have HB:=n0_;have BK239:=n1_;have GW239:=n2_;have GE239:=n3_;clear n0_ n1_ n2_ n3_;clear hb hbox hg;have hcz48_0:w47.cell? ⟨gb239,0,none⟩=some (.int .i64 0):=(zAA BK239.out 0).trans rfl;have hcz48_1:w47.cell? ⟨gb239,1,none⟩=some (.int .u64 0):=(zAA BK239.out 1).trans rfl;have hfz48_0:=zAB BK239.out 0;have hfz48_1:=zAB BK239.out 1)|((with_reducible refine zAL (f:=12) rfl ?_);refine goesL_ (some 10) rfl rfl Tryd.func12 (by kernel_rfl) rfl #[.string (⟨#[49,50,46,51,48]⟩:ByteArray)] rfl aM_ ?_;(with_reducible refine (deci_Coins.calls (⟨#[49,50,46,51,48]⟩:ByteArray) t240 t241 _ ?side1 A2.out).mono ?_);(case side1=>(first|(with_reducible exact hG)|((repeat (with_reducible first|exact hG|apply GW.drewN|apply GW.drew|apply GW.alloc));done)|exact GW.below hG (aI_ HB.out GE239.out)));rintro e w49 ⟨rfl,hb⟩;refine ⟨_,rfl,?_⟩;have n0_:=aK_ (zAC (g:=gb239) (o:=.cells #[.int .i64 t236,.int .u64 t237] 27 (0,0)) (by refine aB_ ?_;refine zAU (cs:=#[.int .i64 t236,.int .u64 0]) ?_ 1 _ rfl;refine aB_ ?_;refine zAU (cs:=#[.int .i64 0,.int .u64 0]) ?_ 0 _ rfl;refine aB_ ?_;exact BK239.out) hb);have n1_:=aK_ (zAD (aI_ HB.out GE239.out) hb);clear BK239;clear HB;have BK239:=n0_;have HB:=n1_;clear n0_ n1_;(try clear hb);(try clear hb2);(try clear hk);(try clear hi)))
  have n0_:=aK_ (blk_drew BK239.out)
  have n1_:=aK_ (below_drew1 HB.out)
  clear BK239
  clear HB
  have BK239:=n0_
  have HB:=n1_
  clear n0_ n1_
  refine start_ (n:=25) (S:=fun w'=>True) (ds:=[]) #[false,false,false,false,false,false,false,false,false,false,false,false,false,false,false,false,false,false,false,false,false,false,false,false,false] (by kernel_rfl) rfl rfl trivial (fun hHeld=>?_);refine with_tabW zAQ.tab3 zAQ.bits3 (fun HT_ HW_=>?_)
  generalize w49.drew=w50 at BK239 HB hHeld ⊢
  refine pure_ (i:=0) (N:=some 13) (v:=?_) (a':=?_) #[true,false,false,false,false,false,false,false,false,false,false,false,false,false,false,false,false,false,false,false,false,false,false,false,false] rfl rfl (zAN HT_.out (by kernel_rfl)) (fun _ _ _ h=>h) (Or.inl ⟨by rfl,?_⟩) ?_ ?_
  rotate_left
  ·intro w'
   go_simp
   with_reducible rfl
  rotate_left
  ·simp only [Act.put,List.setIfInBounds_toArray,List.set_cons_zero,List.set_cons_succ,zAO,zAP]
   rfl
  refine pure_ (i:=1) (N:=some 14) (v:=?_) (a':=?_) #[true,true,false,false,false,false,false,false,false,false,false,false,false,false,false,false,false,false,false,false,false,false,false,false,false] rfl rfl (zAN HT_.out (by kernel_rfl)) (fun _ _ _ h=>h) (Or.inl ⟨by rfl,?_⟩) ?_ ?_
  rotate_left
  ·intro w'
   go_simp
   with_reducible rfl
  rotate_left
  ·simp only [Act.put,List.setIfInBounds_toArray,List.set_cons_zero,List.set_cons_succ,zAO,zAP]
   rfl
  refine pure_ (i:=2) (N:=some 15) (v:=?_) (a':=?_) #[true,true,true,false,false,false,false,false,false,false,false,false,false,false,false,false,false,false,false,false,false,false,false,false,false] rfl rfl (zAN HT_.out (by kernel_rfl)) (fun _ _ _ h=>h) (Or.inl ⟨by rfl,?_⟩) ?_ ?_
  rotate_left
  ·intro w'
   go_simp
   with_reducible rfl
  rotate_left
  ·simp only [Act.put,List.setIfInBounds_toArray,List.set_cons_zero,List.set_cons_succ,zAO,zAP]
   rfl
  refine pure_ (i:=3) (N:=some 16) (v:=undef) (a':=?_) #[true,true,true,true,false,false,false,false,false,false,false,false,false,false,false,false,false,false,false,false,false,false,false,false,false] rfl rfl (zAN HT_.out (by kernel_rfl)) (fun _ _ _ h=>h) (Or.inr ⟨by rfl,rfl⟩) ?_ ?_
  rotate_left
  ·simp only [Act.put,List.setIfInBounds_toArray,List.set_cons_zero,List.set_cons_succ,zAO,zAP]
   rfl
  refine pure_ (i:=4) (N:=some 17) (v:=undef) (a':=?_) #[true,true,true,true,true,false,false,false,false,false,false,false,false,false,false,false,false,false,false,false,false,false,false,false,false] rfl rfl (zAN HT_.out (by kernel_rfl)) (fun _ _ _ h=>h) (Or.inr ⟨by rfl,rfl⟩) ?_ ?_
  rotate_left
  ·simp only [Act.put,List.setIfInBounds_toArray,List.set_cons_zero,List.set_cons_succ,zAO,zAP]
   rfl
  refine pure_ (i:=5) (N:=some 18) (v:=?_) (a':=?_) #[true,true,true,true,true,true,false,false,false,false,false,false,false,false,false,false,false,false,false,false,false,false,false,false,false] rfl rfl (zAN HT_.out (by kernel_rfl)) (fun _ _ _ h=>h) (Or.inl ⟨by rfl,?_⟩) ?_ ?_
  rotate_left
  ·intro w'
   go_simp
   with_reducible rfl
  rotate_left
  ·simp only [Act.put,List.setIfInBounds_toArray,List.set_cons_zero,List.set_cons_succ,zAO,zAP]
   rfl
  refine pure_ (i:=6) (N:=some 19) (v:=?_) (a':=?_) #[true,true,true,true,true,true,true,false,false,false,false,false,false,false,false,false,false,false,false,false,false,false,false,false,false] rfl rfl (zAN HT_.out (by kernel_rfl)) (fun _ _ _ h=>h) (Or.inl ⟨by rfl,?_⟩) ?_ ?_
  rotate_left
  ·intro w'
   go_simp
   with_reducible rfl
  rotate_left
  ·simp only [Act.put,List.setIfInBounds_toArray,List.set_cons_zero,List.set_cons_succ,zAO,zAP]
   rfl
  refine pure_ (i:=7) (N:=some 20) (v:=undef) (a':=?_) #[true,true,true,true,true,true,true,true,false,false,false,false,false,false,false,false,false,false,false,false,false,false,false,false,false] rfl rfl (zAN HT_.out (by kernel_rfl)) (fun _ _ _ h=>h) (Or.inr ⟨by rfl,rfl⟩) ?_ ?_
  rotate_left
  ·simp only [Act.put,List.setIfInBounds_toArray,List.set_cons_zero,List.set_cons_succ,zAO,zAP]
   rfl
  refine pure_ (i:=8) (N:=some 21) (v:=undef) (a':=?_) #[true,true,true,true,true,true,true,true,true,false,false,false,false,false,false,false,false,false,false,false,false,false,false,false,false] rfl rfl (zAN HT_.out (by kernel_rfl)) (fun _ _ _ h=>h) (Or.inr ⟨by rfl,rfl⟩) ?_ ?_
  rotate_left
  ·simp only [Act.put,List.setIfInBounds_toArray,List.set_cons_zero,List.set_cons_succ,zAO,zAP]
   rfl
  refine pure_ (i:=9) (N:=some 22) (v:=undef) (a':=?_) #[true,true,true,true,true,true,true,true,true,true,false,false,false,false,false,false,false,false,false,false,false,false,false,false,false] rfl rfl (zAN HT_.out (by kernel_rfl)) (fun _ _ _ h=>h) (Or.inr ⟨by rfl,rfl⟩) ?_ ?_
  rotate_left
  ·simp only [Act.put,List.setIfInBounds_toArray,List.set_cons_zero,List.set_cons_succ,zAO,zAP]
   rfl
  refine pure_ (i:=10) (N:=some 23) (v:=?_) (a':=?_) #[true,true,true,true,true,true,true,true,true,true,true,false,false,false,false,false,false,false,false,false,false,false,false,false,false] rfl rfl (zAN HT_.out (by kernel_rfl)) (fun _ _ _ h=>h) (Or.inl ⟨by rfl,?_⟩) ?_ ?_
  rotate_left
  ·intro w'
   go_simp
   with_reducible rfl
  rotate_left
  ·simp only [Act.put,List.setIfInBounds_toArray,List.set_cons_zero,List.set_cons_succ,zAO,zAP]
   rfl
  refine pure_ (i:=11) (N:=some 24) (v:=?_) (a':=?_) #[true,true,true,true,true,true,true,true,true,true,true,true,false,false,false,false,false,false,false,false,false,false,false,false,false] rfl rfl (zAN HT_.out (by kernel_rfl)) (fun _ _ _ h=>h) (Or.inl ⟨by rfl,?_⟩) ?_ ?_
  rotate_left
  ·intro w'
   go_simp
   with_reducible rfl
  rotate_left
  ·simp only [Act.put,List.setIfInBounds_toArray,List.set_cons_zero,List.set_cons_succ,zAO,zAP]
   rfl
  refine pure_ (i:=12) (N:=some 25) (v:=undef) (a':=?_) #[true,true,true,true,true,true,true,true,true,true,true,true,true,false,false,false,false,false,false,false,false,false,false,false,false] rfl rfl (zAN HT_.out (by kernel_rfl)) (fun _ _ _ h=>h) (Or.inr ⟨by rfl,rfl⟩) ?_ ?_
  rotate_left
  ·simp only [Act.put,List.setIfInBounds_toArray,List.set_cons_zero,List.set_cons_succ,zAO,zAP]
   rfl
  refine pure_ (i:=13) (N:=some 26) (v:=undef) (a':=?_) #[true,true,true,true,true,true,true,true,true,true,true,true,true,true,false,false,false,false,false,false,false,false,false,false,false] rfl rfl (zAN HT_.out (by kernel_rfl)) (fun _ _ _ h=>h) (Or.inr ⟨by rfl,rfl⟩) ?_ ?_
  rotate_left
  ·simp only [Act.put,List.setIfInBounds_toArray,List.set_cons_zero,List.set_cons_succ,zAO,zAP]
   rfl
  refine pure_ (i:=14) (N:=some 27) (v:=?_) (a':=?_) #[true,true,true,true,true,true,true,true,true,true,true,true,true,true,true,false,false,false,false,false,false,false,false,false,false] rfl rfl (zAN HT_.out (by kernel_rfl)) (fun _ _ _ h=>h) (Or.inl ⟨by rfl,?_⟩) ?_ ?_
  rotate_left
  ·intro w'
   go_simp
   with_reducible rfl
  rotate_left
  ·simp only [Act.put,List.setIfInBounds_toArray,List.set_cons_zero,List.set_cons_succ,zAO,zAP]
   rfl
  refine pure_ (i:=15) (N:=some 28) (v:=?_) (a':=?_) #[true,true,true,true,true,true,true,true,true,true,true,true,true,true,true,true,false,false,false,false,false,false,false,false,false] rfl rfl (zAN HT_.out (by kernel_rfl)) (fun _ _ _ h=>h) (Or.inl ⟨by rfl,?_⟩) ?_ ?_
  rotate_left
  ·intro w'
   go_simp
   with_reducible rfl
  rotate_left
  ·simp only [Act.put,List.setIfInBounds_toArray,List.set_cons_zero,List.set_cons_succ,zAO,zAP]
   rfl
  refine pure_ (i:=16) (N:=some 29) (v:=undef) (a':=?_) #[true,true,true,true,true,true,true,true,true,true,true,true,true,true,true,true,true,false,false,false,false,false,false,false,false] rfl rfl (zAN HT_.out (by kernel_rfl)) (fun _ _ _ h=>h) (Or.inr ⟨by rfl,rfl⟩) ?_ ?_
  rotate_left
  ·simp only [Act.put,List.setIfInBounds_toArray,List.set_cons_zero,List.set_cons_succ,zAO,zAP]
   rfl
  refine pure_ (i:=17) (N:=some 30) (v:=undef) (a':=?_) #[true,true,true,true,true,true,true,true,true,true,true,true,true,true,true,true,true,true,false,false,false,false,false,false,false] rfl rfl (zAN HT_.out (by kernel_rfl)) (fun _ _ _ h=>h) (Or.inr ⟨by rfl,rfl⟩) ?_ ?_
  rotate_left
  ·simp only [Act.put,List.setIfInBounds_toArray,List.set_cons_zero,List.set_cons_succ,zAO,zAP]
   rfl
  refine pure_ (i:=18) (N:=some 31) (v:=undef) (a':=?_) #[true,true,true,true,true,true,true,true,true,true,true,true,true,true,true,true,true,true,true,false,false,false,false,false,false] rfl rfl (zAN HT_.out (by kernel_rfl)) (fun _ _ _ h=>h) (Or.inr ⟨by rfl,rfl⟩) ?_ ?_
  rotate_left
  ·simp only [Act.put,List.setIfInBounds_toArray,List.set_cons_zero,List.set_cons_succ,zAO,zAP]
   rfl
  refine pure_ (i:=19) (N:=some 32) (v:=?_) (a':=?_) #[true,true,true,true,true,true,true,true,true,true,true,true,true,true,true,true,true,true,true,true,false,false,false,false,false] rfl rfl (zAN HT_.out (by kernel_rfl)) (fun _ _ _ h=>h) (Or.inl ⟨by rfl,?_⟩) ?_ ?_
  rotate_left
  ·intro w'
   go_simp
   with_reducible rfl
  rotate_left
  ·simp only [Act.put,List.setIfInBounds_toArray,List.set_cons_zero,List.set_cons_succ,zAO,zAP]
   rfl
  refine pure_ (i:=20) (N:=some 33) (v:=?_) (a':=?_) #[true,true,true,true,true,true,true,true,true,true,true,true,true,true,true,true,true,true,true,true,true,false,false,false,false] rfl rfl (zAN HT_.out (by kernel_rfl)) (fun _ _ _ h=>h) (Or.inl ⟨by rfl,?_⟩) ?_ ?_
  rotate_left
  ·intro w'
   go_simp
   with_reducible rfl
  rotate_left
  ·simp only [Act.put,List.setIfInBounds_toArray,List.set_cons_zero,List.set_cons_succ,zAO,zAP]
   rfl
  refine pure_ (i:=21) (N:=some 34) (v:=undef) (a':=?_) #[true,true,true,true,true,true,true,true,true,true,true,true,true,true,true,true,true,true,true,true,true,true,false,false,false] rfl rfl (zAN HT_.out (by kernel_rfl)) (fun _ _ _ h=>h) (Or.inr ⟨by rfl,rfl⟩) ?_ ?_
  rotate_left
  ·simp only [Act.put,List.setIfInBounds_toArray,List.set_cons_zero,List.set_cons_succ,zAO,zAP]
   rfl
  refine pure_ (i:=22) (N:=some 35) (v:=undef) (a':=?_) #[true,true,true,true,true,true,true,true,true,true,true,true,true,true,true,true,true,true,true,true,true,true,true,false,false] rfl rfl (zAN HT_.out (by kernel_rfl)) (fun _ _ _ h=>h) (Or.inr ⟨by rfl,rfl⟩) ?_ ?_
  rotate_left
  ·simp only [Act.put,List.setIfInBounds_toArray,List.set_cons_zero,List.set_cons_succ,zAO,zAP]
   rfl
  refine pure_ (i:=23) (N:=some 36) (v:=?_) (a':=?_) #[true,true,true,true,true,true,true,true,true,true,true,true,true,true,true,true,true,true,true,true,true,true,true,true,false] rfl rfl (zAN HT_.out (by kernel_rfl)) (fun _ _ _ h=>h) (Or.inl ⟨by rfl,?_⟩) ?_ ?_
  rotate_left
  ·intro w'
   go_simp
   with_reducible rfl
  rotate_left
  ·simp only [Act.put,List.setIfInBounds_toArray,List.set_cons_zero,List.set_cons_succ,zAO,zAP]
   rfl
  refine pure_ (i:=24) (N:=some 0) (v:=?_) (a':=?_) #[true,true,true,true,true,true,true,true,true,true,true,true,true,true,true,true,true,true,true,true,true,true,true,true,true] rfl rfl (zAN HT_.out (by kernel_rfl)) (fun _ _ _ h=>h) (Or.inl ⟨by rfl,?_⟩) ?_ ?_
  rotate_left
  ·intro w'
   go_simp
   with_reducible rfl
  rotate_left
  ·simp only [Act.put,List.setIfInBounds_toArray,List.set_cons_zero,List.set_cons_succ,zAO,zAP]
   rfl
  refine done_ (done_of HT_.out (by kernel_rfl)) ?_
  try go_wp2
  go_ret
  exact ⟨by first|rfl|(simp [zAK,zAJ] <;> rfl)|(simp [*,zAK,zAJ] <;> rfl),aI_ HB.out GE239.out⟩
 rw [if_pos c3] at H
 have c3b0:(t238 == 0)=true:=beq_iff_eq.mpr c3
 have c3b1:(t238 != 0)=false:=bne_eq_false_iff_eq.mpr c3
 clear c3
 by_cases c4:t241=0
 rotate_left
 ·rw [if_neg c4] at H
  have c4b0:(t241 == 0)=false:=beq_eq_false_iff_ne.mpr c4
  have c4b1:(t241 != 0)=true:=bne_iff_ne.mpr c4
  obtain rfl:=Option.some.inj H
  go_enter Tryd.func7,Tryd.ntmps7
  try go_wp2_with (first|((with_reducible refine zAL (f:=10) rfl ?_);refine goesL_ (some 6) rfl rfl Tryd.func10 (by kernel_rfl) rfl #[.string (⟨#[45,49,53]⟩:ByteArray)] rfl aM_ ?_;(with_reducible refine (zAM.calls k (⟨#[45,49,53]⟩:ByteArray) t236 t237 t238 _ A1.out).mono ?_);rintro e w41 ⟨rfl,hb⟩;refine ⟨_,rfl,?_⟩;have n0_:=aK_ (zAD (aH_ HB.out) hb);clear HB;have HB:=n0_;clear n0_;(try clear hb);(try clear hb2);(try clear hk);(try clear hi))|((with_reducible refine gate_dst (N:=1) rfl ?_);refine zAS ?hg (N:=1) ?hd (cs:=#[.int .i64 0,.int .u64 0]) (t:=27) ?hr ?_;(case hd=>rfl);(case hg=>rfl);(case hr=>first|(go_simp;done)|(go_simp;rfl));intro gb239 hg w42 hbox hb;have n0_:=aK_ (zAD (aH_ HB.out) hb);have n1_:=aK_ (hbox);have n2_:=aK_ ((by rw [hg];exact (zAE (aH_ HB.out)):w.heap.size≤gb239));have n3_:=aK_ ((by rw [hg];exact (zAE (aH_ HB.out)):w.heap.size≤gb239));clear HB;have HB:=n0_;have BK239:=n1_;have GW239:=n2_;have GE239:=n3_;clear n0_ n1_ n2_ n3_;clear hb hbox hg;have hcz43_0:w42.cell? ⟨gb239,0,none⟩=some (.int .i64 0):=(zAA BK239.out 0).trans rfl;have hcz43_1:w42.cell? ⟨gb239,1,none⟩=some (.int .u64 0):=(zAA BK239.out 1).trans rfl;have hfz43_0:=zAB BK239.out 0;have hfz43_1:=zAB BK239.out 1)|((with_reducible refine zAL (f:=12) rfl ?_);refine goesL_ (some 10) rfl rfl Tryd.func12 (by kernel_rfl) rfl #[.string (⟨#[49,50,46,51,48]⟩:ByteArray)] rfl aM_ ?_;(with_reducible refine (deci_Coins.calls (⟨#[49,50,46,51,48]⟩:ByteArray) t240 t241 _ ?side1 A2.out).mono ?_);(case side1=>(first|(with_reducible exact hG)|((repeat (with_reducible first|exact hG|apply GW.drewN|apply GW.drew|apply GW.alloc));done)|exact GW.below hG (aI_ HB.out GE239.out)));rintro e w44 ⟨rfl,hb⟩;refine ⟨_,rfl,?_⟩;have n0_:=aK_ (zAC (g:=gb239) (o:=.cells #[.int .i64 t236,.int .u64 t237] 27 (0,0)) (by refine aB_ ?_;refine zAU (cs:=#[.int .i64 t236,.int .u64 0]) ?_ 1 _ rfl;refine aB_ ?_;refine zAU (cs:=#[.int .i64 0,.int .u64 0]) ?_ 0 _ rfl;refine aB_ ?_;exact BK239.out) hb);have n1_:=aK_ (zAD (aI_ HB.out GE239.out) hb);clear BK239;clear HB;have BK239:=n0_;have HB:=n1_;clear n0_ n1_;(try clear hb);(try clear hb2);(try clear hk);(try clear hi)))
  have n0_:=aK_ (blk_drew BK239.out)
  have n1_:=aK_ (below_drew1 HB.out)
  clear BK239
  clear HB
  have BK239:=n0_
  have HB:=n1_
  clear n0_ n1_
  refine start_ (n:=25) (S:=fun w'=>True) (ds:=[]) #[false,false,false,false,false,false,false,false,false,false,false,false,false,false,false,false,false,false,false,false,false,false,false,false,false] (by kernel_rfl) rfl rfl trivial (fun hHeld=>?_);refine with_tabW zAQ.tab3 zAQ.bits3 (fun HT_ HW_=>?_)
  generalize w44.drew=w45 at BK239 HB hHeld ⊢
  refine pure_ (i:=0) (N:=some 13) (v:=?_) (a':=?_) #[true,false,false,false,false,false,false,false,false,false,false,false,false,false,false,false,false,false,false,false,false,false,false,false,false] rfl rfl (zAN HT_.out (by kernel_rfl)) (fun _ _ _ h=>h) (Or.inl ⟨by rfl,?_⟩) ?_ ?_
  rotate_left
  ·intro w'
   go_simp
   with_reducible rfl
  rotate_left
  ·simp only [Act.put,List.setIfInBounds_toArray,List.set_cons_zero,List.set_cons_succ,zAO,zAP]
   rfl
  refine pure_ (i:=1) (N:=some 14) (v:=?_) (a':=?_) #[true,true,false,false,false,false,false,false,false,false,false,false,false,false,false,false,false,false,false,false,false,false,false,false,false] rfl rfl (zAN HT_.out (by kernel_rfl)) (fun _ _ _ h=>h) (Or.inl ⟨by rfl,?_⟩) ?_ ?_
  rotate_left
  ·intro w'
   go_simp
   with_reducible rfl
  rotate_left
  ·simp only [Act.put,List.setIfInBounds_toArray,List.set_cons_zero,List.set_cons_succ,zAO,zAP]
   rfl
  refine pure_ (i:=2) (N:=some 15) (v:=?_) (a':=?_) #[true,true,true,false,false,false,false,false,false,false,false,false,false,false,false,false,false,false,false,false,false,false,false,false,false] rfl rfl (zAN HT_.out (by kernel_rfl)) (fun _ _ _ h=>h) (Or.inl ⟨by rfl,?_⟩) ?_ ?_
  rotate_left
  ·intro w'
   go_simp
   with_reducible rfl
  rotate_left
  ·simp only [Act.put,List.setIfInBounds_toArray,List.set_cons_zero,List.set_cons_succ,zAO,zAP]
   rfl
  refine pure_ (i:=3) (N:=some 16) (v:=?_) (a':=?_) #[true,true,true,true,false,false,false,false,false,false,false,false,false,false,false,false,false,false,false,false,false,false,false,false,false] rfl rfl (zAN HT_.out (by kernel_rfl)) (fun _ _ _ h=>h) (Or.inl ⟨by rfl,?_⟩) ?_ ?_
  rotate_left
  ·intro w'
   go_simp
   with_reducible rfl
  rotate_left
  ·simp only [Act.put,List.setIfInBounds_toArray,List.set_cons_zero,List.set_cons_succ,zAO,zAP]
   rfl
  refine pure_ (i:=4) (N:=some 17) (v:=?_) (a':=?_) #[true,true,true,true,true,false,false,false,false,false,false,false,false,false,false,false,false,false,false,false,false,false,false,false,false] rfl rfl (zAN HT_.out (by kernel_rfl)) (fun _ _ _ h=>h) (Or.inl ⟨by rfl,?_⟩) ?_ ?_
  rotate_left
  ·intro w'
   go_simp
   with_reducible rfl
  rotate_left
  ·simp only [Act.put,List.setIfInBounds_toArray,List.set_cons_zero,List.set_cons_succ,zAO,zAP]
   rfl
  refine pure_ (i:=5) (N:=some 18) (v:=?_) (a':=?_) #[true,true,true,true,true,true,false,false,false,false,false,false,false,false,false,false,false,false,false,false,false,false,false,false,false] rfl rfl (zAN HT_.out (by kernel_rfl)) (fun _ _ _ h=>h) (Or.inl ⟨by rfl,?_⟩) ?_ ?_
  rotate_left
  ·intro w'
   go_simp
   with_reducible rfl
  rotate_left
  ·simp only [Act.put,List.setIfInBounds_toArray,List.set_cons_zero,List.set_cons_succ,zAO,zAP]
   rfl
  refine pure_ (i:=6) (N:=some 19) (v:=?_) (a':=?_) #[true,true,true,true,true,true,true,false,false,false,false,false,false,false,false,false,false,false,false,false,false,false,false,false,false] rfl rfl (zAN HT_.out (by kernel_rfl)) (fun _ _ _ h=>h) (Or.inl ⟨by rfl,?_⟩) ?_ ?_
  rotate_left
  ·intro w'
   go_simp
   with_reducible rfl
  rotate_left
  ·simp only [Act.put,List.setIfInBounds_toArray,List.set_cons_zero,List.set_cons_succ,zAO,zAP]
   rfl
  refine pure_ (i:=7) (N:=some 20) (v:=undef) (a':=?_) #[true,true,true,true,true,true,true,true,false,false,false,false,false,false,false,false,false,false,false,false,false,false,false,false,false] rfl rfl (zAN HT_.out (by kernel_rfl)) (fun _ _ _ h=>h) (Or.inr ⟨by rfl,rfl⟩) ?_ ?_
  rotate_left
  ·simp only [Act.put,List.setIfInBounds_toArray,List.set_cons_zero,List.set_cons_succ,zAO,zAP]
   rfl
  refine pure_ (i:=8) (N:=some 21) (v:=undef) (a':=?_) #[true,true,true,true,true,true,true,true,true,false,false,false,false,false,false,false,false,false,false,false,false,false,false,false,false] rfl rfl (zAN HT_.out (by kernel_rfl)) (fun _ _ _ h=>h) (Or.inr ⟨by rfl,rfl⟩) ?_ ?_
  rotate_left
  ·simp only [Act.put,List.setIfInBounds_toArray,List.set_cons_zero,List.set_cons_succ,zAO,zAP]
   rfl
  refine pure_ (i:=9) (N:=some 22) (v:=undef) (a':=?_) #[true,true,true,true,true,true,true,true,true,true,false,false,false,false,false,false,false,false,false,false,false,false,false,false,false] rfl rfl (zAN HT_.out (by kernel_rfl)) (fun _ _ _ h=>h) (Or.inr ⟨by rfl,rfl⟩) ?_ ?_
  rotate_left
  ·simp only [Act.put,List.setIfInBounds_toArray,List.set_cons_zero,List.set_cons_succ,zAO,zAP]
   rfl
  refine pure_ (i:=10) (N:=some 23) (v:=?_) (a':=?_) #[true,true,true,true,true,true,true,true,true,true,true,false,false,false,false,false,false,false,false,false,false,false,false,false,false] rfl rfl (zAN HT_.out (by kernel_rfl)) (fun _ _ _ h=>h) (Or.inl ⟨by rfl,?_⟩) ?_ ?_
  rotate_left
  ·intro w'
   go_simp
   with_reducible rfl
  rotate_left
  ·simp only [Act.put,List.setIfInBounds_toArray,List.set_cons_zero,List.set_cons_succ,zAO,zAP]
   rfl
  refine pure_ (i:=11) (N:=some 24) (v:=?_) (a':=?_) #[true,true,true,true,true,true,true,true,true,true,true,true,false,false,false,false,false,false,false,false,false,false,false,false,false] rfl rfl (zAN HT_.out (by kernel_rfl)) (fun _ _ _ h=>h) (Or.inl ⟨by rfl,?_⟩) ?_ ?_
  rotate_left
  ·intro w'
   go_simp
   with_reducible rfl
  rotate_left
  ·simp only [Act.put,List.setIfInBounds_toArray,List.set_cons_zero,List.set_cons_succ,zAO,zAP]
   rfl
  refine pure_ (i:=12) (N:=some 25) (v:=undef) (a':=?_) #[true,true,true,true,true,true,true,true,true,true,true,true,true,false,false,false,false,false,false,false,false,false,false,false,false] rfl rfl (zAN HT_.out (by kernel_rfl)) (fun _ _ _ h=>h) (Or.inr ⟨by rfl,rfl⟩) ?_ ?_
  rotate_left
  ·simp only [Act.put,List.setIfInBounds_toArray,List.set_cons_zero,List.set_cons_succ,zAO,zAP]
   rfl
  refine pure_ (i:=13) (N:=some 26) (v:=undef) (a':=?_) #[true,true,true,true,true,true,true,true,true,true,true,true,true,true,false,false,false,false,false,false,false,false,false,false,false] rfl rfl (zAN HT_.out (by kernel_rfl)) (fun _ _ _ h=>h) (Or.inr ⟨by rfl,rfl⟩) ?_ ?_
  rotate_left
  ·simp only [Act.put,List.setIfInBounds_toArray,List.set_cons_zero,List.set_cons_succ,zAO,zAP]
   rfl
  refine pure_ (i:=14) (N:=some 27) (v:=?_) (a':=?_) #[true,true,true,true,true,true,true,true,true,true,true,true,true,true,true,false,false,false,false,false,false,false,false,false,false] rfl rfl (zAN HT_.out (by kernel_rfl)) (fun _ _ _ h=>h) (Or.inl ⟨by rfl,?_⟩) ?_ ?_
  rotate_left
  ·intro w'
   go_simp
   with_reducible rfl
  rotate_left
  ·simp only [Act.put,List.setIfInBounds_toArray,List.set_cons_zero,List.set_cons_succ,zAO,zAP]
   rfl
  refine pure_ (i:=15) (N:=some 28) (v:=?_) (a':=?_) #[true,true,true,true,true,true,true,true,true,true,true,true,true,true,true,true,false,false,false,false,false,false,false,false,false] rfl rfl (zAN HT_.out (by kernel_rfl)) (fun _ _ _ h=>h) (Or.inl ⟨by rfl,?_⟩) ?_ ?_
  rotate_left
  ·intro w'
   go_simp
   with_reducible rfl
  rotate_left
  ·simp only [Act.put,List.setIfInBounds_toArray,List.set_cons_zero,List.set_cons_succ,zAO,zAP]
   rfl
  refine pure_ (i:=16) (N:=some 29) (v:=undef) (a':=?_) #[true,true,true,true,true,true,true,true,true,true,true,true,true,true,true,true,true,false,false,false,false,false,false,false,false] rfl rfl (zAN HT_.out (by kernel_rfl)) (fun _ _ _ h=>h) (Or.inr ⟨by rfl,rfl⟩) ?_ ?_
  rotate_left
  ·simp only [Act.put,List.setIfInBounds_toArray,List.set_cons_zero,List.set_cons_succ,zAO,zAP]
   rfl
  refine pure_ (i:=17) (N:=some 30) (v:=undef) (a':=?_) #[true,true,true,true,true,true,true,true,true,true,true,true,true,true,true,true,true,true,false,false,false,false,false,false,false] rfl rfl (zAN HT_.out (by kernel_rfl)) (fun _ _ _ h=>h) (Or.inr ⟨by rfl,rfl⟩) ?_ ?_
  rotate_left
  ·simp only [Act.put,List.setIfInBounds_toArray,List.set_cons_zero,List.set_cons_succ,zAO,zAP]
   rfl
  refine pure_ (i:=18) (N:=some 31) (v:=undef) (a':=?_) #[true,true,true,true,true,true,true,true,true,true,true,true,true,true,true,true,true,true,true,false,false,false,false,false,false] rfl rfl (zAN HT_.out (by kernel_rfl)) (fun _ _ _ h=>h) (Or.inr ⟨by rfl,rfl⟩) ?_ ?_
  rotate_left
  ·simp only [Act.put,List.setIfInBounds_toArray,List.set_cons_zero,List.set_cons_succ,zAO,zAP]
   rfl
  refine pure_ (i:=19) (N:=some 32) (v:=?_) (a':=?_) #[true,true,true,true,true,true,true,true,true,true,true,true,true,true,true,true,true,true,true,true,false,false,false,false,false] rfl rfl (zAN HT_.out (by kernel_rfl)) (fun _ _ _ h=>h) (Or.inl ⟨by rfl,?_⟩) ?_ ?_
  rotate_left
  ·intro w'
   go_simp
   with_reducible rfl
  rotate_left
  ·simp only [Act.put,List.setIfInBounds_toArray,List.set_cons_zero,List.set_cons_succ,zAO,zAP]
   rfl
  refine pure_ (i:=20) (N:=some 33) (v:=?_) (a':=?_) #[true,true,true,true,true,true,true,true,true,true,true,true,true,true,true,true,true,true,true,true,true,false,false,false,false] rfl rfl (zAN HT_.out (by kernel_rfl)) (fun _ _ _ h=>h) (Or.inl ⟨by rfl,?_⟩) ?_ ?_
  rotate_left
  ·intro w'
   go_simp
   with_reducible rfl
  rotate_left
  ·simp only [Act.put,List.setIfInBounds_toArray,List.set_cons_zero,List.set_cons_succ,zAO,zAP]
   rfl
  refine pure_ (i:=21) (N:=some 34) (v:=undef) (a':=?_) #[true,true,true,true,true,true,true,true,true,true,true,true,true,true,true,true,true,true,true,true,true,true,false,false,false] rfl rfl (zAN HT_.out (by kernel_rfl)) (fun _ _ _ h=>h) (Or.inr ⟨by rfl,rfl⟩) ?_ ?_
  rotate_left
  ·simp only [Act.put,List.setIfInBounds_toArray,List.set_cons_zero,List.set_cons_succ,zAO,zAP]
   rfl
  refine pure_ (i:=22) (N:=some 35) (v:=undef) (a':=?_) #[true,true,true,true,true,true,true,true,true,true,true,true,true,true,true,true,true,true,true,true,true,true,true,false,false] rfl rfl (zAN HT_.out (by kernel_rfl)) (fun _ _ _ h=>h) (Or.inr ⟨by rfl,rfl⟩) ?_ ?_
  rotate_left
  ·simp only [Act.put,List.setIfInBounds_toArray,List.set_cons_zero,List.set_cons_succ,zAO,zAP]
   rfl
  refine pure_ (i:=23) (N:=some 36) (v:=?_) (a':=?_) #[true,true,true,true,true,true,true,true,true,true,true,true,true,true,true,true,true,true,true,true,true,true,true,true,false] rfl rfl (zAN HT_.out (by kernel_rfl)) (fun _ _ _ h=>h) (Or.inl ⟨by rfl,?_⟩) ?_ ?_
  rotate_left
  ·intro w'
   go_simp
   with_reducible rfl
  rotate_left
  ·simp only [Act.put,List.setIfInBounds_toArray,List.set_cons_zero,List.set_cons_succ,zAO,zAP]
   rfl
  refine pure_ (i:=24) (N:=some 0) (v:=?_) (a':=?_) #[true,true,true,true,true,true,true,true,true,true,true,true,true,true,true,true,true,true,true,true,true,true,true,true,true] rfl rfl (zAN HT_.out (by kernel_rfl)) (fun _ _ _ h=>h) (Or.inl ⟨by rfl,?_⟩) ?_ ?_
  rotate_left
  ·intro w'
   go_simp
   with_reducible rfl
  rotate_left
  ·simp only [Act.put,List.setIfInBounds_toArray,List.set_cons_zero,List.set_cons_succ,zAO,zAP]
   rfl
  refine done_ (done_of HT_.out (by kernel_rfl)) ?_
  try go_wp2
  go_ret
  exact ⟨by first|rfl|(simp [zAK,zAJ] <;> rfl)|(simp [*,zAK,zAJ] <;> rfl),aI_ HB.out GE239.out⟩
 rw [if_pos c4] at H
 have c4b0:(t241 == 0)=true:=beq_iff_eq.mpr c4
 have c4b1:(t241 != 0)=false:=bne_eq_false_iff_eq.mpr c4
 clear c4
 replace H:=Option.bind_eq_some_iff.mp H
 obtain ⟨⟨t242,t243⟩,A50,H⟩:=H
 replace H:(if (t236 == t242 && (t237 == t243))=true then (if t240=1230 then ((wide_Of.f (-15)).bind fun bt244=>((deci_Text.f k bt244.1 bt244.2).bind fun t246=>(if t246.toList=([45,49,53]:List UInt8) then ((deci_Money.f k (-5)).bind fun t247=>(some (t247.toList == ([45,48,46,48,53]:List UInt8)))) else (some false)))) else (some false)) else (some false))=some r:=H
 have A5:=aK_ A50
 clear A50
 by_cases c6:(t236 == t242 && (t237 == t243))=true
 rotate_left
 ·rw [if_neg c6] at H
  have c6b0:(t236 == t242 && (t237 == t243))=false:=by simpa using c6
  (try (have c6b1:decide (t236=t242 && (t237 == t243))=false:=by simpa using c6))
  (try (have c6b2:(t236 == t242 && (t237 == t243))=false:=by simpa using c6))
  (try (have c6b3 : ¬ (t236=t242 && (t237 == t243)):=by simpa using c6))
  clear c6
  obtain rfl:=Option.some.inj H
  go_enter Tryd.func7,Tryd.ntmps7
  try go_wp2_with (first|((with_reducible refine zAL (f:=10) rfl ?_);refine goesL_ (some 6) rfl rfl Tryd.func10 (by kernel_rfl) rfl #[.string (⟨#[45,49,53]⟩:ByteArray)] rfl aM_ ?_;(with_reducible refine (zAM.calls k (⟨#[45,49,53]⟩:ByteArray) t236 t237 t238 _ A1.out).mono ?_);rintro e w35 ⟨rfl,hb⟩;refine ⟨_,rfl,?_⟩;have n0_:=aK_ (zAD (aH_ HB.out) hb);clear HB;have HB:=n0_;clear n0_;(try clear hb);(try clear hb2);(try clear hk);(try clear hi))|((with_reducible refine gate_dst (N:=1) rfl ?_);refine zAS ?hg (N:=1) ?hd (cs:=#[.int .i64 0,.int .u64 0]) (t:=27) ?hr ?_;(case hd=>rfl);(case hg=>rfl);(case hr=>first|(go_simp;done)|(go_simp;rfl));intro gb239 hg w36 hbox hb;have n0_:=aK_ (zAD (aH_ HB.out) hb);have n1_:=aK_ (hbox);have n2_:=aK_ ((by rw [hg];exact (zAE (aH_ HB.out)):w.heap.size≤gb239));have n3_:=aK_ ((by rw [hg];exact (zAE (aH_ HB.out)):w.heap.size≤gb239));clear HB;have HB:=n0_;have BK239:=n1_;have GW239:=n2_;have GE239:=n3_;clear n0_ n1_ n2_ n3_;clear hb hbox hg;have hcz37_0:w36.cell? ⟨gb239,0,none⟩=some (.int .i64 0):=(zAA BK239.out 0).trans rfl;have hcz37_1:w36.cell? ⟨gb239,1,none⟩=some (.int .u64 0):=(zAA BK239.out 1).trans rfl;have hfz37_0:=zAB BK239.out 0;have hfz37_1:=zAB BK239.out 1)|((with_reducible refine zAL (f:=12) rfl ?_);refine goesL_ (some 10) rfl rfl Tryd.func12 (by kernel_rfl) rfl #[.string (⟨#[49,50,46,51,48]⟩:ByteArray)] rfl aM_ ?_;(with_reducible refine (deci_Coins.calls (⟨#[49,50,46,51,48]⟩:ByteArray) t240 t241 _ ?side1 A2.out).mono ?_);(case side1=>(first|(with_reducible exact hG)|((repeat (with_reducible first|exact hG|apply GW.drewN|apply GW.drew|apply GW.alloc));done)|exact GW.below hG (aI_ HB.out GE239.out)));rintro e w38 ⟨rfl,hb⟩;refine ⟨_,rfl,?_⟩;have n0_:=aK_ (zAC (g:=gb239) (o:=.cells #[.int .i64 t236,.int .u64 t237] 27 (0,0)) (by refine aB_ ?_;refine zAU (cs:=#[.int .i64 t236,.int .u64 0]) ?_ 1 _ rfl;refine aB_ ?_;refine zAU (cs:=#[.int .i64 0,.int .u64 0]) ?_ 0 _ rfl;refine aB_ ?_;exact BK239.out) hb);have n1_:=aK_ (zAD (aI_ HB.out GE239.out) hb);clear BK239;clear HB;have BK239:=n0_;have HB:=n1_;clear n0_ n1_;(try clear hb);(try clear hb2);(try clear hk);(try clear hi)))
  have n0_:=aK_ (blk_drew BK239.out)
  have n1_:=aK_ (below_drew1 HB.out)
  clear BK239
  clear HB
  have BK239:=n0_
  have HB:=n1_
  clear n0_ n1_
  refine start_ (n:=25) (S:=fun w'=>w'.cell? ⟨gb239,0,none⟩=some (.int .i64 t236)∧w'.cell? ⟨gb239,1,none⟩=some (.int .u64 t237)) (ds:=[]) #[false,false,false,false,false,false,false,false,false,false,false,false,false,false,false,false,false,false,false,false,false,false,false,false,false] (by kernel_rfl) rfl rfl ⟨(zAA BK239.out 0).trans rfl,(zAA BK239.out 1).trans rfl⟩ (fun hHeld=>?_);refine with_tabW zAQ.tab3 zAQ.bits3 (fun HT_ HW_=>?_)
  generalize w38.drew=w39 at BK239 HB hHeld ⊢
  refine pure_ (i:=0) (N:=some 13) (v:=?_) (a':=?_) #[true,false,false,false,false,false,false,false,false,false,false,false,false,false,false,false,false,false,false,false,false,false,false,false,false] rfl rfl (zAN HT_.out (by kernel_rfl)) (fun _ _ _ h=>h) (Or.inl ⟨by rfl,?_⟩) ?_ ?_
  rotate_left
  ·intro w'
   go_simp
   with_reducible rfl
  rotate_left
  ·simp only [Act.put,List.setIfInBounds_toArray,List.set_cons_zero,List.set_cons_succ,zAO,zAP]
   rfl
  refine pure_ (i:=1) (N:=some 14) (v:=?_) (a':=?_) #[true,true,false,false,false,false,false,false,false,false,false,false,false,false,false,false,false,false,false,false,false,false,false,false,false] rfl rfl (zAN HT_.out (by kernel_rfl)) (fun _ _ _ h=>h) (Or.inl ⟨by rfl,?_⟩) ?_ ?_
  rotate_left
  ·intro w'
   go_simp
   with_reducible rfl
  rotate_left
  ·simp only [Act.put,List.setIfInBounds_toArray,List.set_cons_zero,List.set_cons_succ,zAO,zAP]
   rfl
  refine pure_ (i:=2) (N:=some 15) (v:=?_) (a':=?_) #[true,true,true,false,false,false,false,false,false,false,false,false,false,false,false,false,false,false,false,false,false,false,false,false,false] rfl rfl (zAN HT_.out (by kernel_rfl)) (fun _ _ _ h=>h) (Or.inl ⟨by rfl,?_⟩) ?_ ?_
  rotate_left
  ·intro w'
   go_simp
   with_reducible rfl
  rotate_left
  ·simp only [Act.put,List.setIfInBounds_toArray,List.set_cons_zero,List.set_cons_succ,zAO,zAP]
   rfl
  refine pure_ (i:=3) (N:=some 16) (v:=?_) (a':=?_) #[true,true,true,true,false,false,false,false,false,false,false,false,false,false,false,false,false,false,false,false,false,false,false,false,false] rfl rfl (zAN HT_.out (by kernel_rfl)) (fun _ _ _ h=>h) (Or.inl ⟨by rfl,?_⟩) ?_ ?_
  rotate_left
  ·intro w'
   go_simp
   with_reducible rfl
  rotate_left
  ·simp only [Act.put,List.setIfInBounds_toArray,List.set_cons_zero,List.set_cons_succ,zAO,zAP]
   rfl
  refine pure_ (i:=4) (N:=some 17) (v:=?_) (a':=?_) #[true,true,true,true,true,false,false,false,false,false,false,false,false,false,false,false,false,false,false,false,false,false,false,false,false] rfl rfl (zAN HT_.out (by kernel_rfl)) (fun _ _ _ h=>h) (Or.inl ⟨by rfl,?_⟩) ?_ ?_
  rotate_left
  ·intro w'
   go_simp
   with_reducible rfl
  rotate_left
  ·simp only [Act.put,List.setIfInBounds_toArray,List.set_cons_zero,List.set_cons_succ,zAO,zAP]
   rfl
  refine pure_ (i:=5) (N:=some 18) (v:=?_) (a':=?_) #[true,true,true,true,true,true,false,false,false,false,false,false,false,false,false,false,false,false,false,false,false,false,false,false,false] rfl rfl (zAN HT_.out (by kernel_rfl)) (fun _ _ _ h=>h) (Or.inl ⟨by rfl,?_⟩) ?_ ?_
  rotate_left
  ·intro w'
   go_simp
   with_reducible rfl
  rotate_left
  ·simp only [Act.put,List.setIfInBounds_toArray,List.set_cons_zero,List.set_cons_succ,zAO,zAP]
   rfl
  refine pure_ (i:=6) (N:=some 19) (v:=?_) (a':=?_) #[true,true,true,true,true,true,true,false,false,false,false,false,false,false,false,false,false,false,false,false,false,false,false,false,false] rfl rfl (zAN HT_.out (by kernel_rfl)) (fun _ _ _ h=>h) (Or.inl ⟨by rfl,?_⟩) ?_ ?_
  rotate_left
  ·intro w'
   go_simp
   with_reducible rfl
  rotate_left
  ·simp only [Act.put,List.setIfInBounds_toArray,List.set_cons_zero,List.set_cons_succ,zAO,zAP]
   rfl
  refine take_ (i:=7) (N:=some 20) (v:=?_) (a':=?_) #[true,true,true,true,true,true,true,true,false,false,false,false,false,false,false,false,false,false,false,false,false,false,false,false,false] rfl rfl (take_ofW HT_.out HW_.out (by kernel_rfl)) (fun _ _ _ h=>h) (Or.inl ⟨by rfl,?_⟩) hHeld ?_ ?_
  rotate_left
  ·rintro w' ⟨s0,s1⟩
   go_simp
   with_reducible rfl
  rotate_left
  ·simp only [Act.put,List.setIfInBounds_toArray,List.set_cons_zero,List.set_cons_succ,zAO,zAP]
   rfl
  refine one_ (i:=8) (N:=some 21) #[true,true,true,true,true,true,true,true,true,false,false,false,false,false,false,false,false,false,false,false,false,false,false,false,false] rfl rfl (one_of HT_.out (by kernel_rfl)) (by decide) (fun K hK=>?_)
  refine goes_ Tryd.func17 (by kernel_rfl) rfl #[.int .i64 (-15)] (by rfl) rfl rfl aM_ ?_
  with_reducible refine (wide_Of.calls (-15) t242 t243 _ A5.out).mono ?_
  rintro e w40 ⟨rfl,hb⟩
  refine ⟨_,rfl,?_⟩
  have n0_:=aK_ (zAC (g:=gb239) (o:=.cells #[.int .i64 t236,.int .u64 t237] 27 (0,0)) (aB_ BK239.out) hb)
  have n1_:=aK_ (zAD (aI_ HB.out GE239.out) hb)
  clear BK239
  clear HB
  have BK239:=n0_
  have HB:=n1_
  clear n0_ n1_
  (try clear hb)
  (try clear hb2)
  (try clear hk)
  (try clear hi)
  refine hK.out _ _ ⟨(zAA BK239.out 0).trans rfl,(zAA BK239.out 1).trans rfl⟩ (fun hHeld=>?_)
  clear hK K
  refine norm_ (a':=?_) ?_ ?_
  rotate_left
  ·show Act.put _ (some 21) _=_
   simp only [Act.put,List.setIfInBounds_toArray,List.set_cons_zero,List.set_cons_succ,zAO,zAP]
   rfl
  refine pure_ (i:=9) (N:=some 22) (v:=?_) (a':=?_) #[true,true,true,true,true,true,true,true,true,true,false,false,false,false,false,false,false,false,false,false,false,false,false,false,false] rfl rfl (zAN HT_.out (by kernel_rfl)) (fun _ _ _ h=>h) (Or.inl ⟨by rfl,?_⟩) ?_ ?_
  rotate_left
  ·intro w'
   go_simp
   with_reducible rfl
  rotate_left
  ·simp only [Act.put,List.setIfInBounds_toArray,List.set_cons_zero,List.set_cons_succ,zAO,zAP]
   rfl
  refine pure_ (i:=10) (N:=some 23) (v:=?_) (a':=?_) #[true,true,true,true,true,true,true,true,true,true,true,false,false,false,false,false,false,false,false,false,false,false,false,false,false] rfl rfl (zAN HT_.out (by kernel_rfl)) (fun _ _ _ h=>h) (Or.inl ⟨by rfl,?_⟩) ?_ ?_
  rotate_left
  ·intro w'
   go_simp
   with_reducible rfl
  rotate_left
  ·simp only [Act.put,List.setIfInBounds_toArray,List.set_cons_zero,List.set_cons_succ,zAO,zAP]
   rfl
  refine pure_ (i:=11) (N:=some 24) (v:=?_) (a':=?_) #[true,true,true,true,true,true,true,true,true,true,true,true,false,false,false,false,false,false,false,false,false,false,false,false,false] rfl rfl (zAN HT_.out (by kernel_rfl)) (fun _ _ _ h=>h) (Or.inl ⟨by rfl,?_⟩) ?_ ?_
  rotate_left
  ·intro w'
   go_simp
   with_reducible rfl
  rotate_left
  ·simp only [Act.put,List.setIfInBounds_toArray,List.set_cons_zero,List.set_cons_succ,zAO,zAP]
   rfl
  refine pure_ (i:=12) (N:=some 25) (v:=undef) (a':=?_) #[true,true,true,true,true,true,true,true,true,true,true,true,true,false,false,false,false,false,false,false,false,false,false,false,false] rfl rfl (zAN HT_.out (by kernel_rfl)) (fun _ _ _ h=>h) (Or.inr ⟨by rfl,rfl⟩) ?_ ?_
  rotate_left
  ·simp only [Act.put,List.setIfInBounds_toArray,List.set_cons_zero,List.set_cons_succ,zAO,zAP]
   rfl
  refine pure_ (i:=13) (N:=some 26) (v:=undef) (a':=?_) #[true,true,true,true,true,true,true,true,true,true,true,true,true,true,false,false,false,false,false,false,false,false,false,false,false] rfl rfl (zAN HT_.out (by kernel_rfl)) (fun _ _ _ h=>h) (Or.inr ⟨by rfl,rfl⟩) ?_ ?_
  rotate_left
  ·simp only [Act.put,List.setIfInBounds_toArray,List.set_cons_zero,List.set_cons_succ,zAO,zAP]
   rfl
  refine pure_ (i:=14) (N:=some 27) (v:=?_) (a':=?_) #[true,true,true,true,true,true,true,true,true,true,true,true,true,true,true,false,false,false,false,false,false,false,false,false,false] rfl rfl (zAN HT_.out (by kernel_rfl)) (fun _ _ _ h=>h) (Or.inl ⟨by rfl,?_⟩) ?_ ?_
  rotate_left
  ·intro w'
   go_simp
   with_reducible rfl
  rotate_left
  ·simp only [Act.put,List.setIfInBounds_toArray,List.set_cons_zero,List.set_cons_succ,zAO,zAP]
   rfl
  refine pure_ (i:=15) (N:=some 28) (v:=?_) (a':=?_) #[true,true,true,true,true,true,true,true,true,true,true,true,true,true,true,true,false,false,false,false,false,false,false,false,false] rfl rfl (zAN HT_.out (by kernel_rfl)) (fun _ _ _ h=>h) (Or.inl ⟨by rfl,?_⟩) ?_ ?_
  rotate_left
  ·intro w'
   go_simp
   with_reducible rfl
  rotate_left
  ·simp only [Act.put,List.setIfInBounds_toArray,List.set_cons_zero,List.set_cons_succ,zAO,zAP]
   rfl
  refine pure_ (i:=16) (N:=some 29) (v:=undef) (a':=?_) #[true,true,true,true,true,true,true,true,true,true,true,true,true,true,true,true,true,false,false,false,false,false,false,false,false] rfl rfl (zAN HT_.out (by kernel_rfl)) (fun _ _ _ h=>h) (Or.inr ⟨by rfl,rfl⟩) ?_ ?_
  rotate_left
  ·simp only [Act.put,List.setIfInBounds_toArray,List.set_cons_zero,List.set_cons_succ,zAO,zAP]
   rfl
  refine pure_ (i:=17) (N:=some 30) (v:=undef) (a':=?_) #[true,true,true,true,true,true,true,true,true,true,true,true,true,true,true,true,true,true,false,false,false,false,false,false,false] rfl rfl (zAN HT_.out (by kernel_rfl)) (fun _ _ _ h=>h) (Or.inr ⟨by rfl,rfl⟩) ?_ ?_
  rotate_left
  ·simp only [Act.put,List.setIfInBounds_toArray,List.set_cons_zero,List.set_cons_succ,zAO,zAP]
   rfl
  refine pure_ (i:=18) (N:=some 31) (v:=undef) (a':=?_) #[true,true,true,true,true,true,true,true,true,true,true,true,true,true,true,true,true,true,true,false,false,false,false,false,false] rfl rfl (zAN HT_.out (by kernel_rfl)) (fun _ _ _ h=>h) (Or.inr ⟨by rfl,rfl⟩) ?_ ?_
  rotate_left
  ·simp only [Act.put,List.setIfInBounds_toArray,List.set_cons_zero,List.set_cons_succ,zAO,zAP]
   rfl
  refine pure_ (i:=19) (N:=some 32) (v:=?_) (a':=?_) #[true,true,true,true,true,true,true,true,true,true,true,true,true,true,true,true,true,true,true,true,false,false,false,false,false] rfl rfl (zAN HT_.out (by kernel_rfl)) (fun _ _ _ h=>h) (Or.inl ⟨by rfl,?_⟩) ?_ ?_
  rotate_left
  ·intro w'
   go_simp
   with_reducible rfl
  rotate_left
  ·simp only [Act.put,List.setIfInBounds_toArray,List.set_cons_zero,List.set_cons_succ,zAO,zAP]
   rfl
  refine pure_ (i:=20) (N:=some 33) (v:=?_) (a':=?_) #[true,true,true,true,true,true,true,true,true,true,true,true,true,true,true,true,true,true,true,true,true,false,false,false,false] rfl rfl (zAN HT_.out (by kernel_rfl)) (fun _ _ _ h=>h) (Or.inl ⟨by rfl,?_⟩) ?_ ?_
  rotate_left
  ·intro w'
   go_simp
   with_reducible rfl
  rotate_left
  ·simp only [Act.put,List.setIfInBounds_toArray,List.set_cons_zero,List.set_cons_succ,zAO,zAP]
   rfl
  refine pure_ (i:=21) (N:=some 34) (v:=undef) (a':=?_) #[true,true,true,true,true,true,true,true,true,true,true,true,true,true,true,true,true,true,true,true,true,true,false,false,false] rfl rfl (zAN HT_.out (by kernel_rfl)) (fun _ _ _ h=>h) (Or.inr ⟨by rfl,rfl⟩) ?_ ?_
  rotate_left
  ·simp only [Act.put,List.setIfInBounds_toArray,List.set_cons_zero,List.set_cons_succ,zAO,zAP]
   rfl
  refine pure_ (i:=22) (N:=some 35) (v:=undef) (a':=?_) #[true,true,true,true,true,true,true,true,true,true,true,true,true,true,true,true,true,true,true,true,true,true,true,false,false] rfl rfl (zAN HT_.out (by kernel_rfl)) (fun _ _ _ h=>h) (Or.inr ⟨by rfl,rfl⟩) ?_ ?_
  rotate_left
  ·simp only [Act.put,List.setIfInBounds_toArray,List.set_cons_zero,List.set_cons_succ,zAO,zAP]
   rfl
  refine pure_ (i:=23) (N:=some 36) (v:=?_) (a':=?_) #[true,true,true,true,true,true,true,true,true,true,true,true,true,true,true,true,true,true,true,true,true,true,true,true,false] rfl rfl (zAN HT_.out (by kernel_rfl)) (fun _ _ _ h=>h) (Or.inl ⟨by rfl,?_⟩) ?_ ?_
  rotate_left
  ·intro w'
   go_simp
   with_reducible rfl
  rotate_left
  ·simp only [Act.put,List.setIfInBounds_toArray,List.set_cons_zero,List.set_cons_succ,zAO,zAP]
   rfl
  refine pure_ (i:=24) (N:=some 0) (v:=?_) (a':=?_) #[true,true,true,true,true,true,true,true,true,true,true,true,true,true,true,true,true,true,true,true,true,true,true,true,true] rfl rfl (zAN HT_.out (by kernel_rfl)) (fun _ _ _ h=>h) (Or.inl ⟨by rfl,?_⟩) ?_ ?_
  rotate_left
  ·intro w'
   go_simp
   with_reducible rfl
  rotate_left
  ·simp only [Act.put,List.setIfInBounds_toArray,List.set_cons_zero,List.set_cons_succ,zAO,zAP]
   rfl
  refine done_ (done_of HT_.out (by kernel_rfl)) ?_
  try go_wp2
  go_ret
  exact ⟨by first|rfl|(simp [zAK,zAJ] <;> rfl)|(simp [*,zAK,zAJ] <;> rfl),aI_ HB.out GE239.out⟩
 rw [if_pos c6] at H
 have c6b0:(t236 == t242 && (t237 == t243))=true:=c6
 (try (have c6b1:decide (t236=t242 && (t237 == t243))=true:=by simpa using c6))
 (try (have c6b2:(t236 == t242 && (t237 == t243))=true:=by simpa using c6))
 clear c6
 by_cases c7:t240=1230
 rotate_left
 ·rw [if_neg c7] at H
  have c7b0:(t240 == 1230)=false:=beq_eq_false_iff_ne.mpr c7
  have c7b1:(t240 != 1230)=true:=bne_iff_ne.mpr c7
  obtain rfl:=Option.some.inj H
  go_enter Tryd.func7,Tryd.ntmps7
  try go_wp2_with (first|((with_reducible refine zAL (f:=10) rfl ?_);refine goesL_ (some 6) rfl rfl Tryd.func10 (by kernel_rfl) rfl #[.string (⟨#[45,49,53]⟩:ByteArray)] rfl aM_ ?_;(with_reducible refine (zAM.calls k (⟨#[45,49,53]⟩:ByteArray) t236 t237 t238 _ A1.out).mono ?_);rintro e w29 ⟨rfl,hb⟩;refine ⟨_,rfl,?_⟩;have n0_:=aK_ (zAD (aH_ HB.out) hb);clear HB;have HB:=n0_;clear n0_;(try clear hb);(try clear hb2);(try clear hk);(try clear hi))|((with_reducible refine gate_dst (N:=1) rfl ?_);refine zAS ?hg (N:=1) ?hd (cs:=#[.int .i64 0,.int .u64 0]) (t:=27) ?hr ?_;(case hd=>rfl);(case hg=>rfl);(case hr=>first|(go_simp;done)|(go_simp;rfl));intro gb239 hg w30 hbox hb;have n0_:=aK_ (zAD (aH_ HB.out) hb);have n1_:=aK_ (hbox);have n2_:=aK_ ((by rw [hg];exact (zAE (aH_ HB.out)):w.heap.size≤gb239));have n3_:=aK_ ((by rw [hg];exact (zAE (aH_ HB.out)):w.heap.size≤gb239));clear HB;have HB:=n0_;have BK239:=n1_;have GW239:=n2_;have GE239:=n3_;clear n0_ n1_ n2_ n3_;clear hb hbox hg;have hcz31_0:w30.cell? ⟨gb239,0,none⟩=some (.int .i64 0):=(zAA BK239.out 0).trans rfl;have hcz31_1:w30.cell? ⟨gb239,1,none⟩=some (.int .u64 0):=(zAA BK239.out 1).trans rfl;have hfz31_0:=zAB BK239.out 0;have hfz31_1:=zAB BK239.out 1)|((with_reducible refine zAL (f:=12) rfl ?_);refine goesL_ (some 10) rfl rfl Tryd.func12 (by kernel_rfl) rfl #[.string (⟨#[49,50,46,51,48]⟩:ByteArray)] rfl aM_ ?_;(with_reducible refine (deci_Coins.calls (⟨#[49,50,46,51,48]⟩:ByteArray) t240 t241 _ ?side1 A2.out).mono ?_);(case side1=>(first|(with_reducible exact hG)|((repeat (with_reducible first|exact hG|apply GW.drewN|apply GW.drew|apply GW.alloc));done)|exact GW.below hG (aI_ HB.out GE239.out)));rintro e w32 ⟨rfl,hb⟩;refine ⟨_,rfl,?_⟩;have n0_:=aK_ (zAC (g:=gb239) (o:=.cells #[.int .i64 t236,.int .u64 t237] 27 (0,0)) (by refine aB_ ?_;refine zAU (cs:=#[.int .i64 t236,.int .u64 0]) ?_ 1 _ rfl;refine aB_ ?_;refine zAU (cs:=#[.int .i64 0,.int .u64 0]) ?_ 0 _ rfl;refine aB_ ?_;exact BK239.out) hb);have n1_:=aK_ (zAD (aI_ HB.out GE239.out) hb);clear BK239;clear HB;have BK239:=n0_;have HB:=n1_;clear n0_ n1_;(try clear hb);(try clear hb2);(try clear hk);(try clear hi)))
  have n0_:=aK_ (blk_drew BK239.out)
  have n1_:=aK_ (below_drew1 HB.out)
  clear BK239
  clear HB
  have BK239:=n0_
  have HB:=n1_
  clear n0_ n1_
  refine start_ (n:=25) (S:=fun w'=>w'.cell? ⟨gb239,0,none⟩=some (.int .i64 t236)∧w'.cell? ⟨gb239,1,none⟩=some (.int .u64 t237)) (ds:=[]) #[false,false,false,false,false,false,false,false,false,false,false,false,false,false,false,false,false,false,false,false,false,false,false,false,false] (by kernel_rfl) rfl rfl ⟨(zAA BK239.out 0).trans rfl,(zAA BK239.out 1).trans rfl⟩ (fun hHeld=>?_);refine with_tabW zAQ.tab3 zAQ.bits3 (fun HT_ HW_=>?_)
  generalize w32.drew=w33 at BK239 HB hHeld ⊢
  refine pure_ (i:=0) (N:=some 13) (v:=?_) (a':=?_) #[true,false,false,false,false,false,false,false,false,false,false,false,false,false,false,false,false,false,false,false,false,false,false,false,false] rfl rfl (zAN HT_.out (by kernel_rfl)) (fun _ _ _ h=>h) (Or.inl ⟨by rfl,?_⟩) ?_ ?_
  rotate_left
  ·intro w'
   go_simp
   with_reducible rfl
  rotate_left
  ·simp only [Act.put,List.setIfInBounds_toArray,List.set_cons_zero,List.set_cons_succ,zAO,zAP]
   rfl
  refine pure_ (i:=1) (N:=some 14) (v:=?_) (a':=?_) #[true,true,false,false,false,false,false,false,false,false,false,false,false,false,false,false,false,false,false,false,false,false,false,false,false] rfl rfl (zAN HT_.out (by kernel_rfl)) (fun _ _ _ h=>h) (Or.inl ⟨by rfl,?_⟩) ?_ ?_
  rotate_left
  ·intro w'
   go_simp
   with_reducible rfl
  rotate_left
  ·simp only [Act.put,List.setIfInBounds_toArray,List.set_cons_zero,List.set_cons_succ,zAO,zAP]
   rfl
  refine pure_ (i:=2) (N:=some 15) (v:=?_) (a':=?_) #[true,true,true,false,false,false,false,false,false,false,false,false,false,false,false,false,false,false,false,false,false,false,false,false,false] rfl rfl (zAN HT_.out (by kernel_rfl)) (fun _ _ _ h=>h) (Or.inl ⟨by rfl,?_⟩) ?_ ?_
  rotate_left
  ·intro w'
   go_simp
   with_reducible rfl
  rotate_left
  ·simp only [Act.put,List.setIfInBounds_toArray,List.set_cons_zero,List.set_cons_succ,zAO,zAP]
   rfl
  refine pure_ (i:=3) (N:=some 16) (v:=?_) (a':=?_) #[true,true,true,true,false,false,false,false,false,false,false,false,false,false,false,false,false,false,false,false,false,false,false,false,false] rfl rfl (zAN HT_.out (by kernel_rfl)) (fun _ _ _ h=>h) (Or.inl ⟨by rfl,?_⟩) ?_ ?_
  rotate_left
  ·intro w'
   go_simp
   with_reducible rfl
  rotate_left
  ·simp only [Act.put,List.setIfInBounds_toArray,List.set_cons_zero,List.set_cons_succ,zAO,zAP]
   rfl
  refine pure_ (i:=4) (N:=some 17) (v:=?_) (a':=?_) #[true,true,true,true,true,false,false,false,false,false,false,false,false,false,false,false,false,false,false,false,false,false,false,false,false] rfl rfl (zAN HT_.out (by kernel_rfl)) (fun _ _ _ h=>h) (Or.inl ⟨by rfl,?_⟩) ?_ ?_
  rotate_left
  ·intro w'
   go_simp
   with_reducible rfl
  rotate_left
  ·simp only [Act.put,List.setIfInBounds_toArray,List.set_cons_zero,List.set_cons_succ,zAO,zAP]
   rfl
  refine pure_ (i:=5) (N:=some 18) (v:=?_) (a':=?_) #[true,true,true,true,true,true,false,false,false,false,false,false,false,false,false,false,false,false,false,false,false,false,false,false,false] rfl rfl (zAN HT_.out (by kernel_rfl)) (fun _ _ _ h=>h) (Or.inl ⟨by rfl,?_⟩) ?_ ?_
  rotate_left
  ·intro w'
   go_simp
   with_reducible rfl
  rotate_left
  ·simp only [Act.put,List.setIfInBounds_toArray,List.set_cons_zero,List.set_cons_succ,zAO,zAP]
   rfl
  refine pure_ (i:=6) (N:=some 19) (v:=?_) (a':=?_) #[true,true,true,true,true,true,true,false,false,false,false,false,false,false,false,false,false,false,false,false,false,false,false,false,false] rfl rfl (zAN HT_.out (by kernel_rfl)) (fun _ _ _ h=>h) (Or.inl ⟨by rfl,?_⟩) ?_ ?_
  rotate_left
  ·intro w'
   go_simp
   with_reducible rfl
  rotate_left
  ·simp only [Act.put,List.setIfInBounds_toArray,List.set_cons_zero,List.set_cons_succ,zAO,zAP]
   rfl
  refine take_ (i:=7) (N:=some 20) (v:=?_) (a':=?_) #[true,true,true,true,true,true,true,true,false,false,false,false,false,false,false,false,false,false,false,false,false,false,false,false,false] rfl rfl (take_ofW HT_.out HW_.out (by kernel_rfl)) (fun _ _ _ h=>h) (Or.inl ⟨by rfl,?_⟩) hHeld ?_ ?_
  rotate_left
  ·rintro w' ⟨s0,s1⟩
   go_simp
   with_reducible rfl
  rotate_left
  ·simp only [Act.put,List.setIfInBounds_toArray,List.set_cons_zero,List.set_cons_succ,zAO,zAP]
   rfl
  refine one_ (i:=8) (N:=some 21) #[true,true,true,true,true,true,true,true,true,false,false,false,false,false,false,false,false,false,false,false,false,false,false,false,false] rfl rfl (one_of HT_.out (by kernel_rfl)) (by decide) (fun K hK=>?_)
  refine goes_ Tryd.func17 (by kernel_rfl) rfl #[.int .i64 (-15)] (by rfl) rfl rfl aM_ ?_
  with_reducible refine (wide_Of.calls (-15) t242 t243 _ A5.out).mono ?_
  rintro e w34 ⟨rfl,hb⟩
  refine ⟨_,rfl,?_⟩
  have n0_:=aK_ (zAC (g:=gb239) (o:=.cells #[.int .i64 t236,.int .u64 t237] 27 (0,0)) (aB_ BK239.out) hb)
  have n1_:=aK_ (zAD (aI_ HB.out GE239.out) hb)
  clear BK239
  clear HB
  have BK239:=n0_
  have HB:=n1_
  clear n0_ n1_
  (try clear hb)
  (try clear hb2)
  (try clear hk)
  (try clear hi)
  refine hK.out _ _ ⟨(zAA BK239.out 0).trans rfl,(zAA BK239.out 1).trans rfl⟩ (fun hHeld=>?_)
  clear hK K
  refine norm_ (a':=?_) ?_ ?_
  rotate_left
  ·show Act.put _ (some 21) _=_
   simp only [Act.put,List.setIfInBounds_toArray,List.set_cons_zero,List.set_cons_succ,zAO,zAP]
   rfl
  refine pure_ (i:=9) (N:=some 22) (v:=?_) (a':=?_) #[true,true,true,true,true,true,true,true,true,true,false,false,false,false,false,false,false,false,false,false,false,false,false,false,false] rfl rfl (zAN HT_.out (by kernel_rfl)) (fun _ _ _ h=>h) (Or.inl ⟨by rfl,?_⟩) ?_ ?_
  rotate_left
  ·intro w'
   go_simp
   with_reducible rfl
  rotate_left
  ·simp only [Act.put,List.setIfInBounds_toArray,List.set_cons_zero,List.set_cons_succ,zAO,zAP]
   rfl
  refine pure_ (i:=10) (N:=some 23) (v:=?_) (a':=?_) #[true,true,true,true,true,true,true,true,true,true,true,false,false,false,false,false,false,false,false,false,false,false,false,false,false] rfl rfl (zAN HT_.out (by kernel_rfl)) (fun _ _ _ h=>h) (Or.inl ⟨by rfl,?_⟩) ?_ ?_
  rotate_left
  ·intro w'
   go_simp
   with_reducible rfl
  rotate_left
  ·simp only [Act.put,List.setIfInBounds_toArray,List.set_cons_zero,List.set_cons_succ,zAO,zAP]
   rfl
  refine pure_ (i:=11) (N:=some 24) (v:=?_) (a':=?_) #[true,true,true,true,true,true,true,true,true,true,true,true,false,false,false,false,false,false,false,false,false,false,false,false,false] rfl rfl (zAN HT_.out (by kernel_rfl)) (fun _ _ _ h=>h) (Or.inl ⟨by rfl,?_⟩) ?_ ?_
  rotate_left
  ·intro w'
   go_simp
   with_reducible rfl
  rotate_left
  ·simp only [Act.put,List.setIfInBounds_toArray,List.set_cons_zero,List.set_cons_succ,zAO,zAP]
   rfl
  refine pure_ (i:=12) (N:=some 25) (v:=?_) (a':=?_) #[true,true,true,true,true,true,true,true,true,true,true,true,true,false,false,false,false,false,false,false,false,false,false,false,false] rfl rfl (zAN HT_.out (by kernel_rfl)) (fun _ _ _ h=>h) (Or.inl ⟨by rfl,?_⟩) ?_ ?_
  rotate_left
  ·intro w'
   go_simp
   with_reducible rfl
  rotate_left
  ·simp only [Act.put,List.setIfInBounds_toArray,List.set_cons_zero,List.set_cons_succ,zAO,zAP]
   rfl
  refine pure_ (i:=13) (N:=some 26) (v:=?_) (a':=?_) #[true,true,true,true,true,true,true,true,true,true,true,true,true,true,false,false,false,false,false,false,false,false,false,false,false] rfl rfl (zAN HT_.out (by kernel_rfl)) (fun _ _ _ h=>h) (Or.inl ⟨by rfl,?_⟩) ?_ ?_
  rotate_left
  ·intro w'
   go_simp
   with_reducible rfl
  rotate_left
  ·simp only [Act.put,List.setIfInBounds_toArray,List.set_cons_zero,List.set_cons_succ,zAO,zAP]
   rfl
  refine pure_ (i:=14) (N:=some 27) (v:=?_) (a':=?_) #[true,true,true,true,true,true,true,true,true,true,true,true,true,true,true,false,false,false,false,false,false,false,false,false,false] rfl rfl (zAN HT_.out (by kernel_rfl)) (fun _ _ _ h=>h) (Or.inl ⟨by rfl,?_⟩) ?_ ?_
  rotate_left
  ·intro w'
   go_simp
   with_reducible rfl
  rotate_left
  ·simp only [Act.put,List.setIfInBounds_toArray,List.set_cons_zero,List.set_cons_succ,zAO,zAP]
   rfl
  refine pure_ (i:=15) (N:=some 28) (v:=?_) (a':=?_) #[true,true,true,true,true,true,true,true,true,true,true,true,true,true,true,true,false,false,false,false,false,false,false,false,false] rfl rfl (zAN HT_.out (by kernel_rfl)) (fun _ _ _ h=>h) (Or.inl ⟨by rfl,?_⟩) ?_ ?_
  rotate_left
  ·intro w'
   go_simp
   with_reducible rfl
  rotate_left
  ·simp only [Act.put,List.setIfInBounds_toArray,List.set_cons_zero,List.set_cons_succ,zAO,zAP]
   rfl
  refine pure_ (i:=16) (N:=some 29) (v:=undef) (a':=?_) #[true,true,true,true,true,true,true,true,true,true,true,true,true,true,true,true,true,false,false,false,false,false,false,false,false] rfl rfl (zAN HT_.out (by kernel_rfl)) (fun _ _ _ h=>h) (Or.inr ⟨by rfl,rfl⟩) ?_ ?_
  rotate_left
  ·simp only [Act.put,List.setIfInBounds_toArray,List.set_cons_zero,List.set_cons_succ,zAO,zAP]
   rfl
  refine pure_ (i:=17) (N:=some 30) (v:=undef) (a':=?_) #[true,true,true,true,true,true,true,true,true,true,true,true,true,true,true,true,true,true,false,false,false,false,false,false,false] rfl rfl (zAN HT_.out (by kernel_rfl)) (fun _ _ _ h=>h) (Or.inr ⟨by rfl,rfl⟩) ?_ ?_
  rotate_left
  ·simp only [Act.put,List.setIfInBounds_toArray,List.set_cons_zero,List.set_cons_succ,zAO,zAP]
   rfl
  refine pure_ (i:=18) (N:=some 31) (v:=undef) (a':=?_) #[true,true,true,true,true,true,true,true,true,true,true,true,true,true,true,true,true,true,true,false,false,false,false,false,false] rfl rfl (zAN HT_.out (by kernel_rfl)) (fun _ _ _ h=>h) (Or.inr ⟨by rfl,rfl⟩) ?_ ?_
  rotate_left
  ·simp only [Act.put,List.setIfInBounds_toArray,List.set_cons_zero,List.set_cons_succ,zAO,zAP]
   rfl
  refine pure_ (i:=19) (N:=some 32) (v:=?_) (a':=?_) #[true,true,true,true,true,true,true,true,true,true,true,true,true,true,true,true,true,true,true,true,false,false,false,false,false] rfl rfl (zAN HT_.out (by kernel_rfl)) (fun _ _ _ h=>h) (Or.inl ⟨by rfl,?_⟩) ?_ ?_
  rotate_left
  ·intro w'
   go_simp
   with_reducible rfl
  rotate_left
  ·simp only [Act.put,List.setIfInBounds_toArray,List.set_cons_zero,List.set_cons_succ,zAO,zAP]
   rfl
  refine pure_ (i:=20) (N:=some 33) (v:=?_) (a':=?_) #[true,true,true,true,true,true,true,true,true,true,true,true,true,true,true,true,true,true,true,true,true,false,false,false,false] rfl rfl (zAN HT_.out (by kernel_rfl)) (fun _ _ _ h=>h) (Or.inl ⟨by rfl,?_⟩) ?_ ?_
  rotate_left
  ·intro w'
   go_simp
   with_reducible rfl
  rotate_left
  ·simp only [Act.put,List.setIfInBounds_toArray,List.set_cons_zero,List.set_cons_succ,zAO,zAP]
   rfl
  refine pure_ (i:=21) (N:=some 34) (v:=undef) (a':=?_) #[true,true,true,true,true,true,true,true,true,true,true,true,true,true,true,true,true,true,true,true,true,true,false,false,false] rfl rfl (zAN HT_.out (by kernel_rfl)) (fun _ _ _ h=>h) (Or.inr ⟨by rfl,rfl⟩) ?_ ?_
  rotate_left
  ·simp only [Act.put,List.setIfInBounds_toArray,List.set_cons_zero,List.set_cons_succ,zAO,zAP]
   rfl
  refine pure_ (i:=22) (N:=some 35) (v:=undef) (a':=?_) #[true,true,true,true,true,true,true,true,true,true,true,true,true,true,true,true,true,true,true,true,true,true,true,false,false] rfl rfl (zAN HT_.out (by kernel_rfl)) (fun _ _ _ h=>h) (Or.inr ⟨by rfl,rfl⟩) ?_ ?_
  rotate_left
  ·simp only [Act.put,List.setIfInBounds_toArray,List.set_cons_zero,List.set_cons_succ,zAO,zAP]
   rfl
  refine pure_ (i:=23) (N:=some 36) (v:=?_) (a':=?_) #[true,true,true,true,true,true,true,true,true,true,true,true,true,true,true,true,true,true,true,true,true,true,true,true,false] rfl rfl (zAN HT_.out (by kernel_rfl)) (fun _ _ _ h=>h) (Or.inl ⟨by rfl,?_⟩) ?_ ?_
  rotate_left
  ·intro w'
   go_simp
   with_reducible rfl
  rotate_left
  ·simp only [Act.put,List.setIfInBounds_toArray,List.set_cons_zero,List.set_cons_succ,zAO,zAP]
   rfl
  refine pure_ (i:=24) (N:=some 0) (v:=?_) (a':=?_) #[true,true,true,true,true,true,true,true,true,true,true,true,true,true,true,true,true,true,true,true,true,true,true,true,true] rfl rfl (zAN HT_.out (by kernel_rfl)) (fun _ _ _ h=>h) (Or.inl ⟨by rfl,?_⟩) ?_ ?_
  rotate_left
  ·intro w'
   go_simp
   with_reducible rfl
  rotate_left
  ·simp only [Act.put,List.setIfInBounds_toArray,List.set_cons_zero,List.set_cons_succ,zAO,zAP]
   rfl
  refine done_ (done_of HT_.out (by kernel_rfl)) ?_
  try go_wp2
  go_ret
  exact ⟨by first|rfl|(simp [zAK,zAJ] <;> rfl)|(simp [*,zAK,zAJ] <;> rfl),aI_ HB.out GE239.out⟩
 rw [if_pos c7] at H
 have c7b0:(t240 == 1230)=true:=beq_iff_eq.mpr c7
 have c7b1:(t240 != 1230)=false:=bne_eq_false_iff_eq.mpr c7
 clear c7
 replace H:=Option.bind_eq_some_iff.mp H
 obtain ⟨⟨t244,t245⟩,A80,H⟩:=H
 replace H:((deci_Text.f k t244 t245).bind fun t246=>(if t246.toList=([45,49,53]:List UInt8) then ((deci_Money.f k (-5)).bind fun t247=>(some (t247.toList == ([45,48,46,48,53]:List UInt8)))) else (some false)))=some r:=H
 have A8:=aK_ A80
 clear A80
 replace H:=Option.bind_eq_some_iff.mp H
 obtain ⟨t246,A90,H⟩:=H
 replace H:(if t246.toList=([45,49,53]:List UInt8) then ((deci_Money.f k (-5)).bind fun t247=>(some (t247.toList == ([45,48,46,48,53]:List UInt8)))) else (some false))=some r:=H
 have A9:=aK_ A90
 clear A90
 by_cases c10:t246.toList=([45,49,53]:List UInt8)
 rotate_left
 ·rw [if_neg c10] at H
  have c10b0:(t246.toList == ([45,49,53]:List UInt8))=false:=beq_eq_false_iff_ne.mpr c10
  have c10b1:(t246.toList != ([45,49,53]:List UInt8))=true:=bne_iff_ne.mpr c10
  obtain rfl:=Option.some.inj H
  go_enter Tryd.func7,Tryd.ntmps7
  try go_wp2_with (first|((with_reducible refine zAL (f:=10) rfl ?_);refine goesL_ (some 6) rfl rfl Tryd.func10 (by kernel_rfl) rfl #[.string (⟨#[45,49,53]⟩:ByteArray)] rfl aM_ ?_;(with_reducible refine (zAM.calls k (⟨#[45,49,53]⟩:ByteArray) t236 t237 t238 _ A1.out).mono ?_);rintro e w21 ⟨rfl,hb⟩;refine ⟨_,rfl,?_⟩;have n0_:=aK_ (zAD (aH_ HB.out) hb);clear HB;have HB:=n0_;clear n0_;(try clear hb);(try clear hb2);(try clear hk);(try clear hi))|((with_reducible refine gate_dst (N:=1) rfl ?_);refine zAS ?hg (N:=1) ?hd (cs:=#[.int .i64 0,.int .u64 0]) (t:=27) ?hr ?_;(case hd=>rfl);(case hg=>rfl);(case hr=>first|(go_simp;done)|(go_simp;rfl));intro gb239 hg w22 hbox hb;have n0_:=aK_ (zAD (aH_ HB.out) hb);have n1_:=aK_ (hbox);have n2_:=aK_ ((by rw [hg];exact (zAE (aH_ HB.out)):w.heap.size≤gb239));have n3_:=aK_ ((by rw [hg];exact (zAE (aH_ HB.out)):w.heap.size≤gb239));clear HB;have HB:=n0_;have BK239:=n1_;have GW239:=n2_;have GE239:=n3_;clear n0_ n1_ n2_ n3_;clear hb hbox hg;have hcz23_0:w22.cell? ⟨gb239,0,none⟩=some (.int .i64 0):=(zAA BK239.out 0).trans rfl;have hcz23_1:w22.cell? ⟨gb239,1,none⟩=some (.int .u64 0):=(zAA BK239.out 1).trans rfl;have hfz23_0:=zAB BK239.out 0;have hfz23_1:=zAB BK239.out 1)|((with_reducible refine zAL (f:=12) rfl ?_);refine goesL_ (some 10) rfl rfl Tryd.func12 (by kernel_rfl) rfl #[.string (⟨#[49,50,46,51,48]⟩:ByteArray)] rfl aM_ ?_;(with_reducible refine (deci_Coins.calls (⟨#[49,50,46,51,48]⟩:ByteArray) t240 t241 _ ?side1 A2.out).mono ?_);(case side1=>(first|(with_reducible exact hG)|((repeat (with_reducible first|exact hG|apply GW.drewN|apply GW.drew|apply GW.alloc));done)|exact GW.below hG (aI_ HB.out GE239.out)));rintro e w24 ⟨rfl,hb⟩;refine ⟨_,rfl,?_⟩;have n0_:=aK_ (zAC (g:=gb239) (o:=.cells #[.int .i64 t236,.int .u64 t237] 27 (0,0)) (by refine aB_ ?_;refine zAU (cs:=#[.int .i64 t236,.int .u64 0]) ?_ 1 _ rfl;refine aB_ ?_;refine zAU (cs:=#[.int .i64 0,.int .u64 0]) ?_ 0 _ rfl;refine aB_ ?_;exact BK239.out) hb);have n1_:=aK_ (zAD (aI_ HB.out GE239.out) hb);clear BK239;clear HB;have BK239:=n0_;have HB:=n1_;clear n0_ n1_;(try clear hb);(try clear hb2);(try clear hk);(try clear hi)))
  have n0_:=aK_ (blk_drew BK239.out)
  have n1_:=aK_ (below_drew1 HB.out)
  clear BK239
  clear HB
  have BK239:=n0_
  have HB:=n1_
  clear n0_ n1_
  refine start_ (n:=25) (S:=fun w'=>w'.cell? ⟨gb239,0,none⟩=some (.int .i64 t236)∧w'.cell? ⟨gb239,1,none⟩=some (.int .u64 t237)) (ds:=[]) #[false,false,false,false,false,false,false,false,false,false,false,false,false,false,false,false,false,false,false,false,false,false,false,false,false] (by kernel_rfl) rfl rfl ⟨(zAA BK239.out 0).trans rfl,(zAA BK239.out 1).trans rfl⟩ (fun hHeld=>?_);refine with_tabW zAQ.tab3 zAQ.bits3 (fun HT_ HW_=>?_)
  generalize w24.drew=w25 at BK239 HB hHeld ⊢
  refine pure_ (i:=0) (N:=some 13) (v:=?_) (a':=?_) #[true,false,false,false,false,false,false,false,false,false,false,false,false,false,false,false,false,false,false,false,false,false,false,false,false] rfl rfl (zAN HT_.out (by kernel_rfl)) (fun _ _ _ h=>h) (Or.inl ⟨by rfl,?_⟩) ?_ ?_
  rotate_left
  ·intro w'
   go_simp
   with_reducible rfl
  rotate_left
  ·simp only [Act.put,List.setIfInBounds_toArray,List.set_cons_zero,List.set_cons_succ,zAO,zAP]
   rfl
  refine pure_ (i:=1) (N:=some 14) (v:=?_) (a':=?_) #[true,true,false,false,false,false,false,false,false,false,false,false,false,false,false,false,false,false,false,false,false,false,false,false,false] rfl rfl (zAN HT_.out (by kernel_rfl)) (fun _ _ _ h=>h) (Or.inl ⟨by rfl,?_⟩) ?_ ?_
  rotate_left
  ·intro w'
   go_simp
   with_reducible rfl
  rotate_left
  ·simp only [Act.put,List.setIfInBounds_toArray,List.set_cons_zero,List.set_cons_succ,zAO,zAP]
   rfl
  refine pure_ (i:=2) (N:=some 15) (v:=?_) (a':=?_) #[true,true,true,false,false,false,false,false,false,false,false,false,false,false,false,false,false,false,false,false,false,false,false,false,false] rfl rfl (zAN HT_.out (by kernel_rfl)) (fun _ _ _ h=>h) (Or.inl ⟨by rfl,?_⟩) ?_ ?_
  rotate_left
  ·intro w'
   go_simp
   with_reducible rfl
  rotate_left
  ·simp only [Act.put,List.setIfInBounds_toArray,List.set_cons_zero,List.set_cons_succ,zAO,zAP]
   rfl
  refine pure_ (i:=3) (N:=some 16) (v:=?_) (a':=?_) #[true,true,true,true,false,false,false,false,false,false,false,false,false,false,false,false,false,false,false,false,false,false,false,false,false] rfl rfl (zAN HT_.out (by kernel_rfl)) (fun _ _ _ h=>h) (Or.inl ⟨by rfl,?_⟩) ?_ ?_
  rotate_left
  ·intro w'
   go_simp
   with_reducible rfl
  rotate_left
  ·simp only [Act.put,List.setIfInBounds_toArray,List.set_cons_zero,List.set_cons_succ,zAO,zAP]
   rfl
  refine pure_ (i:=4) (N:=some 17) (v:=?_) (a':=?_) #[true,true,true,true,true,false,false,false,false,false,false,false,false,false,false,false,false,false,false,false,false,false,false,false,false] rfl rfl (zAN HT_.out (by kernel_rfl)) (fun _ _ _ h=>h) (Or.inl ⟨by rfl,?_⟩) ?_ ?_
  rotate_left
  ·intro w'
   go_simp
   with_reducible rfl
  rotate_left
  ·simp only [Act.put,List.setIfInBounds_toArray,List.set_cons_zero,List.set_cons_succ,zAO,zAP]
   rfl
  refine pure_ (i:=5) (N:=some 18) (v:=?_) (a':=?_) #[true,true,true,true,true,true,false,false,false,false,false,false,false,false,false,false,false,false,false,false,false,false,false,false,false] rfl rfl (zAN HT_.out (by kernel_rfl)) (fun _ _ _ h=>h) (Or.inl ⟨by rfl,?_⟩) ?_ ?_
  rotate_left
  ·intro w'
   go_simp
   with_reducible rfl
  rotate_left
  ·simp only [Act.put,List.setIfInBounds_toArray,List.set_cons_zero,List.set_cons_succ,zAO,zAP]
   rfl
  refine pure_ (i:=6) (N:=some 19) (v:=?_) (a':=?_) #[true,true,true,true,true,true,true,false,false,false,false,false,false,false,false,false,false,false,false,false,false,false,false,false,false] rfl rfl (zAN HT_.out (by kernel_rfl)) (fun _ _ _ h=>h) (Or.inl ⟨by rfl,?_⟩) ?_ ?_
  rotate_left
  ·intro w'
   go_simp
   with_reducible rfl
  rotate_left
  ·simp only [Act.put,List.setIfInBounds_toArray,List.set_cons_zero,List.set_cons_succ,zAO,zAP]
   rfl
  refine take_ (i:=7) (N:=some 20) (v:=?_) (a':=?_) #[true,true,true,true,true,true,true,true,false,false,false,false,false,false,false,false,false,false,false,false,false,false,false,false,false] rfl rfl (take_ofW HT_.out HW_.out (by kernel_rfl)) (fun _ _ _ h=>h) (Or.inl ⟨by rfl,?_⟩) hHeld ?_ ?_
  rotate_left
  ·rintro w' ⟨s0,s1⟩
   go_simp
   with_reducible rfl
  rotate_left
  ·simp only [Act.put,List.setIfInBounds_toArray,List.set_cons_zero,List.set_cons_succ,zAO,zAP]
   rfl
  refine one_ (i:=8) (N:=some 21) #[true,true,true,true,true,true,true,true,true,false,false,false,false,false,false,false,false,false,false,false,false,false,false,false,false] rfl rfl (one_of HT_.out (by kernel_rfl)) (by decide) (fun K hK=>?_)
  refine goes_ Tryd.func17 (by kernel_rfl) rfl #[.int .i64 (-15)] (by rfl) rfl rfl aM_ ?_
  with_reducible refine (wide_Of.calls (-15) t242 t243 _ A5.out).mono ?_
  rintro e w26 ⟨rfl,hb⟩
  refine ⟨_,rfl,?_⟩
  have n0_:=aK_ (zAC (g:=gb239) (o:=.cells #[.int .i64 t236,.int .u64 t237] 27 (0,0)) (aB_ BK239.out) hb)
  have n1_:=aK_ (zAD (aI_ HB.out GE239.out) hb)
  clear BK239
  clear HB
  have BK239:=n0_
  have HB:=n1_
  clear n0_ n1_
  (try clear hb)
  (try clear hb2)
  (try clear hk)
  (try clear hi)
  refine hK.out _ _ ⟨(zAA BK239.out 0).trans rfl,(zAA BK239.out 1).trans rfl⟩ (fun hHeld=>?_)
  clear hK K
  refine norm_ (a':=?_) ?_ ?_
  rotate_left
  ·show Act.put _ (some 21) _=_
   simp only [Act.put,List.setIfInBounds_toArray,List.set_cons_zero,List.set_cons_succ,zAO,zAP]
   rfl
  refine pure_ (i:=9) (N:=some 22) (v:=?_) (a':=?_) #[true,true,true,true,true,true,true,true,true,true,false,false,false,false,false,false,false,false,false,false,false,false,false,false,false] rfl rfl (zAN HT_.out (by kernel_rfl)) (fun _ _ _ h=>h) (Or.inl ⟨by rfl,?_⟩) ?_ ?_
  rotate_left
  ·intro w'
   go_simp
   with_reducible rfl
  rotate_left
  ·simp only [Act.put,List.setIfInBounds_toArray,List.set_cons_zero,List.set_cons_succ,zAO,zAP]
   rfl
  refine pure_ (i:=10) (N:=some 23) (v:=?_) (a':=?_) #[true,true,true,true,true,true,true,true,true,true,true,false,false,false,false,false,false,false,false,false,false,false,false,false,false] rfl rfl (zAN HT_.out (by kernel_rfl)) (fun _ _ _ h=>h) (Or.inl ⟨by rfl,?_⟩) ?_ ?_
  rotate_left
  ·intro w'
   go_simp
   with_reducible rfl
  rotate_left
  ·simp only [Act.put,List.setIfInBounds_toArray,List.set_cons_zero,List.set_cons_succ,zAO,zAP]
   rfl
  refine pure_ (i:=11) (N:=some 24) (v:=?_) (a':=?_) #[true,true,true,true,true,true,true,true,true,true,true,true,false,false,false,false,false,false,false,false,false,false,false,false,false] rfl rfl (zAN HT_.out (by kernel_rfl)) (fun _ _ _ h=>h) (Or.inl ⟨by rfl,?_⟩) ?_ ?_
  rotate_left
  ·intro w'
   go_simp
   with_reducible rfl
  rotate_left
  ·simp only [Act.put,List.setIfInBounds_toArray,List.set_cons_zero,List.set_cons_succ,zAO,zAP]
   rfl
  refine pure_ (i:=12) (N:=some 25) (v:=?_) (a':=?_) #[true,true,true,true,true,true,true,true,true,true,true,true,true,false,false,false,false,false,false,false,false,false,false,false,false] rfl rfl (zAN HT_.out (by kernel_rfl)) (fun _ _ _ h=>h) (Or.inl ⟨by rfl,?_⟩) ?_ ?_
  rotate_left
  ·intro w'
   go_simp
   with_reducible rfl
  rotate_left
  ·simp only [Act.put,List.setIfInBounds_toArray,List.set_cons_zero,List.set_cons_succ,zAO,zAP]
   rfl
  refine pure_ (i:=13) (N:=some 26) (v:=?_) (a':=?_) #[true,true,true,true,true,true,true,true,true,true,true,true,true,true,false,false,false,false,false,false,false,false,false,false,false] rfl rfl (zAN HT_.out (by kernel_rfl)) (fun _ _ _ h=>h) (Or.inl ⟨by rfl,?_⟩) ?_ ?_
  rotate_left
  ·intro w'
   go_simp
   with_reducible rfl
  rotate_left
  ·simp only [Act.put,List.setIfInBounds_toArray,List.set_cons_zero,List.set_cons_succ,zAO,zAP]
   rfl
  refine pure_ (i:=14) (N:=some 27) (v:=?_) (a':=?_) #[true,true,true,true,true,true,true,true,true,true,true,true,true,true,true,false,false,false,false,false,false,false,false,false,false] rfl rfl (zAN HT_.out (by kernel_rfl)) (fun _ _ _ h=>h) (Or.inl ⟨by rfl,?_⟩) ?_ ?_
  rotate_left
  ·intro w'
   go_simp
   with_reducible rfl
  rotate_left
  ·simp only [Act.put,List.setIfInBounds_toArray,List.set_cons_zero,List.set_cons_succ,zAO,zAP]
   rfl
  refine pure_ (i:=15) (N:=some 28) (v:=?_) (a':=?_) #[true,true,true,true,true,true,true,true,true,true,true,true,true,true,true,true,false,false,false,false,false,false,false,false,false] rfl rfl (zAN HT_.out (by kernel_rfl)) (fun _ _ _ h=>h) (Or.inl ⟨by rfl,?_⟩) ?_ ?_
  rotate_left
  ·intro w'
   go_simp
   with_reducible rfl
  rotate_left
  ·simp only [Act.put,List.setIfInBounds_toArray,List.set_cons_zero,List.set_cons_succ,zAO,zAP]
   rfl
  refine one_ (i:=16) (N:=some 29) #[true,true,true,true,true,true,true,true,true,true,true,true,true,true,true,true,true,false,false,false,false,false,false,false,false] rfl rfl (one_of HT_.out (by kernel_rfl)) (by decide) (fun K hK=>?_)
  refine goes_ Tryd.func17 (by kernel_rfl) rfl #[.int .i64 (-15)] (by rfl) rfl rfl aM_ ?_
  with_reducible refine (wide_Of.calls (-15) t244 t245 _ A8.out).mono ?_
  rintro e w27 ⟨rfl,hb⟩
  refine ⟨_,rfl,?_⟩
  have n0_:=aK_ (zAC (g:=gb239) (o:=.cells #[.int .i64 t236,.int .u64 t237] 27 (0,0)) (aB_ BK239.out) hb)
  have n1_:=aK_ (zAD (aI_ HB.out GE239.out) hb)
  clear BK239
  clear HB
  have BK239:=n0_
  have HB:=n1_
  clear n0_ n1_
  (try clear hb)
  (try clear hb2)
  (try clear hk)
  (try clear hi)
  refine hK.out _ _ ⟨(zAA BK239.out 0).trans rfl,(zAA BK239.out 1).trans rfl⟩ (fun hHeld=>?_)
  clear hK K
  refine norm_ (a':=?_) ?_ ?_
  rotate_left
  ·show Act.put _ (some 29) _=_
   simp only [Act.put,List.setIfInBounds_toArray,List.set_cons_zero,List.set_cons_succ,zAO,zAP]
   rfl
  refine one_ (i:=17) (N:=some 30) #[true,true,true,true,true,true,true,true,true,true,true,true,true,true,true,true,true,true,false,false,false,false,false,false,false] rfl rfl (one_of HT_.out (by kernel_rfl)) (by decide) (fun K hK=>?_)
  refine goes_ Tryd.func8 (by kernel_rfl) rfl #[.agg #[.int .i64 t244,.int .u64 t245]] (by rfl) rfl rfl aM_ ?_
  with_reducible refine (deci_Text.calls k t244 t245 t246 _ ?side1 A9.out).mono ?_
  (case side1=>(first|(with_reducible exact hG)|((repeat (with_reducible first|exact hG|apply GW.drewN|apply GW.drew|apply GW.alloc));done)|exact GW.below hG (aI_ HB.out GE239.out)))
  rintro e w28 ⟨rfl,hb⟩
  refine ⟨_,rfl,?_⟩
  have n0_:=aK_ (zAC (g:=gb239) (o:=.cells #[.int .i64 t236,.int .u64 t237] 27 (0,0)) (aB_ BK239.out) hb)
  have n1_:=aK_ (zAD (aI_ HB.out GE239.out) hb)
  clear BK239
  clear HB
  have BK239:=n0_
  have HB:=n1_
  clear n0_ n1_
  (try clear hb)
  (try clear hb2)
  (try clear hk)
  (try clear hi)
  refine hK.out _ _ ⟨(zAA BK239.out 0).trans rfl,(zAA BK239.out 1).trans rfl⟩ (fun hHeld=>?_)
  clear hK K
  refine norm_ (a':=?_) ?_ ?_
  rotate_left
  ·show Act.put _ (some 30) _=_
   simp only [Act.put,List.setIfInBounds_toArray,List.set_cons_zero,List.set_cons_succ,zAO,zAP]
   rfl
  refine pure_ (i:=18) (N:=some 31) (v:=?_) (a':=?_) #[true,true,true,true,true,true,true,true,true,true,true,true,true,true,true,true,true,true,true,false,false,false,false,false,false] rfl rfl (zAN HT_.out (by kernel_rfl)) (fun _ _ _ h=>h) (Or.inl ⟨by rfl,?_⟩) ?_ ?_
  rotate_left
  ·intro w'
   go_simp
   with_reducible rfl
  rotate_left
  ·simp only [Act.put,List.setIfInBounds_toArray,List.set_cons_zero,List.set_cons_succ,zAO,zAP]
   rfl
  refine pure_ (i:=19) (N:=some 32) (v:=?_) (a':=?_) #[true,true,true,true,true,true,true,true,true,true,true,true,true,true,true,true,true,true,true,true,false,false,false,false,false] rfl rfl (zAN HT_.out (by kernel_rfl)) (fun _ _ _ h=>h) (Or.inl ⟨by rfl,?_⟩) ?_ ?_
  rotate_left
  ·intro w'
   go_simp
   with_reducible rfl
  rotate_left
  ·simp only [Act.put,List.setIfInBounds_toArray,List.set_cons_zero,List.set_cons_succ,zAO,zAP]
   rfl
  refine pure_ (i:=20) (N:=some 33) (v:=?_) (a':=?_) #[true,true,true,true,true,true,true,true,true,true,true,true,true,true,true,true,true,true,true,true,true,false,false,false,false] rfl rfl (zAN HT_.out (by kernel_rfl)) (fun _ _ _ h=>h) (Or.inl ⟨by rfl,?_⟩) ?_ ?_
  rotate_left
  ·intro w'
   go_simp
   with_reducible rfl
  rotate_left
  ·simp only [Act.put,List.setIfInBounds_toArray,List.set_cons_zero,List.set_cons_succ,zAO,zAP]
   rfl
  refine pure_ (i:=21) (N:=some 34) (v:=undef) (a':=?_) #[true,true,true,true,true,true,true,true,true,true,true,true,true,true,true,true,true,true,true,true,true,true,false,false,false] rfl rfl (zAN HT_.out (by kernel_rfl)) (fun _ _ _ h=>h) (Or.inr ⟨by rfl,rfl⟩) ?_ ?_
  rotate_left
  ·simp only [Act.put,List.setIfInBounds_toArray,List.set_cons_zero,List.set_cons_succ,zAO,zAP]
   rfl
  refine pure_ (i:=22) (N:=some 35) (v:=undef) (a':=?_) #[true,true,true,true,true,true,true,true,true,true,true,true,true,true,true,true,true,true,true,true,true,true,true,false,false] rfl rfl (zAN HT_.out (by kernel_rfl)) (fun _ _ _ h=>h) (Or.inr ⟨by rfl,rfl⟩) ?_ ?_
  rotate_left
  ·simp only [Act.put,List.setIfInBounds_toArray,List.set_cons_zero,List.set_cons_succ,zAO,zAP]
   rfl
  refine pure_ (i:=23) (N:=some 36) (v:=?_) (a':=?_) #[true,true,true,true,true,true,true,true,true,true,true,true,true,true,true,true,true,true,true,true,true,true,true,true,false] rfl rfl (zAN HT_.out (by kernel_rfl)) (fun _ _ _ h=>h) (Or.inl ⟨by rfl,?_⟩) ?_ ?_
  rotate_left
  ·intro w'
   go_simp
   with_reducible rfl
  rotate_left
  ·simp only [Act.put,List.setIfInBounds_toArray,List.set_cons_zero,List.set_cons_succ,zAO,zAP]
   rfl
  refine pure_ (i:=24) (N:=some 0) (v:=?_) (a':=?_) #[true,true,true,true,true,true,true,true,true,true,true,true,true,true,true,true,true,true,true,true,true,true,true,true,true] rfl rfl (zAN HT_.out (by kernel_rfl)) (fun _ _ _ h=>h) (Or.inl ⟨by rfl,?_⟩) ?_ ?_
  rotate_left
  ·intro w'
   go_simp
   with_reducible rfl
  rotate_left
  ·simp only [Act.put,List.setIfInBounds_toArray,List.set_cons_zero,List.set_cons_succ,zAO,zAP]
   rfl
  refine done_ (done_of HT_.out (by kernel_rfl)) ?_
  try go_wp2
  go_ret
  exact ⟨by first|rfl|(simp [zAK,zAJ] <;> rfl)|(simp [*,zAK,zAJ] <;> rfl),aI_ HB.out GE239.out⟩
 rw [if_pos c10] at H
 have c10b0:(t246.toList == ([45,49,53]:List UInt8))=true:=beq_iff_eq.mpr c10
 have c10b1:(t246.toList != ([45,49,53]:List UInt8))=false:=bne_eq_false_iff_eq.mpr c10
 clear c10
 replace H:=Option.bind_eq_some_iff.mp H
 obtain ⟨t247,A110,H⟩:=H
 replace H:(some (t247.toList == ([45,48,46,48,53]:List UInt8)))=some r:=H
 have A11:=aK_ A110
 clear A110
 obtain rfl:=Option.some.inj H
 go_enter Tryd.func7,Tryd.ntmps7
 try go_wp2_with (first|((with_reducible refine zAL (f:=10) rfl ?_);refine goesL_ (some 6) rfl rfl Tryd.func10 (by kernel_rfl) rfl #[.string (⟨#[45,49,53]⟩:ByteArray)] rfl aM_ ?_;(with_reducible refine (zAM.calls k (⟨#[45,49,53]⟩:ByteArray) t236 t237 t238 _ A1.out).mono ?_);rintro e w12 ⟨rfl,hb⟩;refine ⟨_,rfl,?_⟩;have n0_:=aK_ (zAD (aH_ HB.out) hb);clear HB;have HB:=n0_;clear n0_;(try clear hb);(try clear hb2);(try clear hk);(try clear hi))|((with_reducible refine gate_dst (N:=1) rfl ?_);refine zAS ?hg (N:=1) ?hd (cs:=#[.int .i64 0,.int .u64 0]) (t:=27) ?hr ?_;(case hd=>rfl);(case hg=>rfl);(case hr=>first|(go_simp;done)|(go_simp;rfl));intro gb239 hg w13 hbox hb;have n0_:=aK_ (zAD (aH_ HB.out) hb);have n1_:=aK_ (hbox);have n2_:=aK_ ((by rw [hg];exact (zAE (aH_ HB.out)):w.heap.size≤gb239));have n3_:=aK_ ((by rw [hg];exact (zAE (aH_ HB.out)):w.heap.size≤gb239));clear HB;have HB:=n0_;have BK239:=n1_;have GW239:=n2_;have GE239:=n3_;clear n0_ n1_ n2_ n3_;clear hb hbox hg;have hcz14_0:w13.cell? ⟨gb239,0,none⟩=some (.int .i64 0):=(zAA BK239.out 0).trans rfl;have hcz14_1:w13.cell? ⟨gb239,1,none⟩=some (.int .u64 0):=(zAA BK239.out 1).trans rfl;have hfz14_0:=zAB BK239.out 0;have hfz14_1:=zAB BK239.out 1)|((with_reducible refine zAL (f:=12) rfl ?_);refine goesL_ (some 10) rfl rfl Tryd.func12 (by kernel_rfl) rfl #[.string (⟨#[49,50,46,51,48]⟩:ByteArray)] rfl aM_ ?_;(with_reducible refine (deci_Coins.calls (⟨#[49,50,46,51,48]⟩:ByteArray) t240 t241 _ ?side1 A2.out).mono ?_);(case side1=>(first|(with_reducible exact hG)|((repeat (with_reducible first|exact hG|apply GW.drewN|apply GW.drew|apply GW.alloc));done)|exact GW.below hG (aI_ HB.out GE239.out)));rintro e w15 ⟨rfl,hb⟩;refine ⟨_,rfl,?_⟩;have n0_:=aK_ (zAC (g:=gb239) (o:=.cells #[.int .i64 t236,.int .u64 t237] 27 (0,0)) (by refine aB_ ?_;refine zAU (cs:=#[.int .i64 t236,.int .u64 0]) ?_ 1 _ rfl;refine aB_ ?_;refine zAU (cs:=#[.int .i64 0,.int .u64 0]) ?_ 0 _ rfl;refine aB_ ?_;exact BK239.out) hb);have n1_:=aK_ (zAD (aI_ HB.out GE239.out) hb);clear BK239;clear HB;have BK239:=n0_;have HB:=n1_;clear n0_ n1_;(try clear hb);(try clear hb2);(try clear hk);(try clear hi)))
 have n0_:=aK_ (blk_drew BK239.out)
 have n1_:=aK_ (below_drew1 HB.out)
 clear BK239
 clear HB
 have BK239:=n0_
 have HB:=n1_
 clear n0_ n1_
 refine start_ (n:=25) (S:=fun w'=>w'.cell? ⟨gb239,0,none⟩=some (.int .i64 t236)∧w'.cell? ⟨gb239,1,none⟩=some (.int .u64 t237)) (ds:=[]) #[false,false,false,false,false,false,false,false,false,false,false,false,false,false,false,false,false,false,false,false,false,false,false,false,false] (by kernel_rfl) rfl rfl ⟨(zAA BK239.out 0).trans rfl,(zAA BK239.out 1).trans rfl⟩ (fun hHeld=>?_);refine with_tabW zAQ.tab3 zAQ.bits3 (fun HT_ HW_=>?_)
 generalize w15.drew=w16 at BK239 HB hHeld ⊢
 refine pure_ (i:=0) (N:=some 13) (v:=?_) (a':=?_) #[true,false,false,false,false,false,false,false,false,false,false,false,false,false,false,false,false,false,false,false,false,false,false,false,false] rfl rfl (zAN HT_.out (by kernel_rfl)) (fun _ _ _ h=>h) (Or.inl ⟨by rfl,?_⟩) ?_ ?_
 rotate_left
 ·intro w'
  go_simp
  with_reducible rfl
 rotate_left
 ·simp only [Act.put,List.setIfInBounds_toArray,List.set_cons_zero,List.set_cons_succ,zAO,zAP]
  rfl
 refine pure_ (i:=1) (N:=some 14) (v:=?_) (a':=?_) #[true,true,false,false,false,false,false,false,false,false,false,false,false,false,false,false,false,false,false,false,false,false,false,false,false] rfl rfl (zAN HT_.out (by kernel_rfl)) (fun _ _ _ h=>h) (Or.inl ⟨by rfl,?_⟩) ?_ ?_
 rotate_left
 ·intro w'
  go_simp
  with_reducible rfl
 rotate_left
 ·simp only [Act.put,List.setIfInBounds_toArray,List.set_cons_zero,List.set_cons_succ,zAO,zAP]
  rfl
 refine pure_ (i:=2) (N:=some 15) (v:=?_) (a':=?_) #[true,true,true,false,false,false,false,false,false,false,false,false,false,false,false,false,false,false,false,false,false,false,false,false,false] rfl rfl (zAN HT_.out (by kernel_rfl)) (fun _ _ _ h=>h) (Or.inl ⟨by rfl,?_⟩) ?_ ?_
 rotate_left
 ·intro w'
  go_simp
  with_reducible rfl
 rotate_left
 ·simp only [Act.put,List.setIfInBounds_toArray,List.set_cons_zero,List.set_cons_succ,zAO,zAP]
  rfl
 refine pure_ (i:=3) (N:=some 16) (v:=?_) (a':=?_) #[true,true,true,true,false,false,false,false,false,false,false,false,false,false,false,false,false,false,false,false,false,false,false,false,false] rfl rfl (zAN HT_.out (by kernel_rfl)) (fun _ _ _ h=>h) (Or.inl ⟨by rfl,?_⟩) ?_ ?_
 rotate_left
 ·intro w'
  go_simp
  with_reducible rfl
 rotate_left
 ·simp only [Act.put,List.setIfInBounds_toArray,List.set_cons_zero,List.set_cons_succ,zAO,zAP]
  rfl
 refine pure_ (i:=4) (N:=some 17) (v:=?_) (a':=?_) #[true,true,true,true,true,false,false,false,false,false,false,false,false,false,false,false,false,false,false,false,false,false,false,false,false] rfl rfl (zAN HT_.out (by kernel_rfl)) (fun _ _ _ h=>h) (Or.inl ⟨by rfl,?_⟩) ?_ ?_
 rotate_left
 ·intro w'
  go_simp
  with_reducible rfl
 rotate_left
 ·simp only [Act.put,List.setIfInBounds_toArray,List.set_cons_zero,List.set_cons_succ,zAO,zAP]
  rfl
 refine pure_ (i:=5) (N:=some 18) (v:=?_) (a':=?_) #[true,true,true,true,true,true,false,false,false,false,false,false,false,false,false,false,false,false,false,false,false,false,false,false,false] rfl rfl (zAN HT_.out (by kernel_rfl)) (fun _ _ _ h=>h) (Or.inl ⟨by rfl,?_⟩) ?_ ?_
 rotate_left
 ·intro w'
  go_simp
  with_reducible rfl
 rotate_left
 ·simp only [Act.put,List.setIfInBounds_toArray,List.set_cons_zero,List.set_cons_succ,zAO,zAP]
  rfl
 refine pure_ (i:=6) (N:=some 19) (v:=?_) (a':=?_) #[true,true,true,true,true,true,true,false,false,false,false,false,false,false,false,false,false,false,false,false,false,false,false,false,false] rfl rfl (zAN HT_.out (by kernel_rfl)) (fun _ _ _ h=>h) (Or.inl ⟨by rfl,?_⟩) ?_ ?_
 rotate_left
 ·intro w'
  go_simp
  with_reducible rfl
 rotate_left
 ·simp only [Act.put,List.setIfInBounds_toArray,List.set_cons_zero,List.set_cons_succ,zAO,zAP]
  rfl
 refine take_ (i:=7) (N:=some 20) (v:=?_) (a':=?_) #[true,true,true,true,true,true,true,true,false,false,false,false,false,false,false,false,false,false,false,false,false,false,false,false,false] rfl rfl (take_ofW HT_.out HW_.out (by kernel_rfl)) (fun _ _ _ h=>h) (Or.inl ⟨by rfl,?_⟩) hHeld ?_ ?_
 rotate_left
 ·rintro w' ⟨s0,s1⟩
  go_simp
  with_reducible rfl
 rotate_left
 ·simp only [Act.put,List.setIfInBounds_toArray,List.set_cons_zero,List.set_cons_succ,zAO,zAP]
  rfl
 refine one_ (i:=8) (N:=some 21) #[true,true,true,true,true,true,true,true,true,false,false,false,false,false,false,false,false,false,false,false,false,false,false,false,false] rfl rfl (one_of HT_.out (by kernel_rfl)) (by decide) (fun K hK=>?_)
 refine goes_ Tryd.func17 (by kernel_rfl) rfl #[.int .i64 (-15)] (by rfl) rfl rfl aM_ ?_
 with_reducible refine (wide_Of.calls (-15) t242 t243 _ A5.out).mono ?_
 rintro e w17 ⟨rfl,hb⟩
 refine ⟨_,rfl,?_⟩
 have n0_:=aK_ (zAC (g:=gb239) (o:=.cells #[.int .i64 t236,.int .u64 t237] 27 (0,0)) (aB_ BK239.out) hb)
 have n1_:=aK_ (zAD (aI_ HB.out GE239.out) hb)
 clear BK239
 clear HB
 have BK239:=n0_
 have HB:=n1_
 clear n0_ n1_
 (try clear hb)
 (try clear hb2)
 (try clear hk)
 (try clear hi)
 refine hK.out _ _ ⟨(zAA BK239.out 0).trans rfl,(zAA BK239.out 1).trans rfl⟩ (fun hHeld=>?_)
 clear hK K
 refine norm_ (a':=?_) ?_ ?_
 rotate_left
 ·show Act.put _ (some 21) _=_
  simp only [Act.put,List.setIfInBounds_toArray,List.set_cons_zero,List.set_cons_succ,zAO,zAP]
  rfl
 refine pure_ (i:=9) (N:=some 22) (v:=?_) (a':=?_) #[true,true,true,true,true,true,true,true,true,true,false,false,false,false,false,false,false,false,false,false,false,false,false,false,false] rfl rfl (zAN HT_.out (by kernel_rfl)) (fun _ _ _ h=>h) (Or.inl ⟨by rfl,?_⟩) ?_ ?_
 rotate_left
 ·intro w'
  go_simp
  with_reducible rfl
 rotate_left
 ·simp only [Act.put,List.setIfInBounds_toArray,List.set_cons_zero,List.set_cons_succ,zAO,zAP]
  rfl
 refine pure_ (i:=10) (N:=some 23) (v:=?_) (a':=?_) #[true,true,true,true,true,true,true,true,true,true,true,false,false,false,false,false,false,false,false,false,false,false,false,false,false] rfl rfl (zAN HT_.out (by kernel_rfl)) (fun _ _ _ h=>h) (Or.inl ⟨by rfl,?_⟩) ?_ ?_
 rotate_left
 ·intro w'
  go_simp
  with_reducible rfl
 rotate_left
 ·simp only [Act.put,List.setIfInBounds_toArray,List.set_cons_zero,List.set_cons_succ,zAO,zAP]
  rfl
 refine pure_ (i:=11) (N:=some 24) (v:=?_) (a':=?_) #[true,true,true,true,true,true,true,true,true,true,true,true,false,false,false,false,false,false,false,false,false,false,false,false,false] rfl rfl (zAN HT_.out (by kernel_rfl)) (fun _ _ _ h=>h) (Or.inl ⟨by rfl,?_⟩) ?_ ?_
 rotate_left
 ·intro w'
  go_simp
  with_reducible rfl
 rotate_left
 ·simp only [Act.put,List.setIfInBounds_toArray,List.set_cons_zero,List.set_cons_succ,zAO,zAP]
  rfl
 refine pure_ (i:=12) (N:=some 25) (v:=?_) (a':=?_) #[true,true,true,true,true,true,true,true,true,true,true,true,true,false,false,false,false,false,false,false,false,false,false,false,false] rfl rfl (zAN HT_.out (by kernel_rfl)) (fun _ _ _ h=>h) (Or.inl ⟨by rfl,?_⟩) ?_ ?_
 rotate_left
 ·intro w'
  go_simp
  with_reducible rfl
 rotate_left
 ·simp only [Act.put,List.setIfInBounds_toArray,List.set_cons_zero,List.set_cons_succ,zAO,zAP]
  rfl
 refine pure_ (i:=13) (N:=some 26) (v:=?_) (a':=?_) #[true,true,true,true,true,true,true,true,true,true,true,true,true,true,false,false,false,false,false,false,false,false,false,false,false] rfl rfl (zAN HT_.out (by kernel_rfl)) (fun _ _ _ h=>h) (Or.inl ⟨by rfl,?_⟩) ?_ ?_
 rotate_left
 ·intro w'
  go_simp
  with_reducible rfl
 rotate_left
 ·simp only [Act.put,List.setIfInBounds_toArray,List.set_cons_zero,List.set_cons_succ,zAO,zAP]
  rfl
 refine pure_ (i:=14) (N:=some 27) (v:=?_) (a':=?_) #[true,true,true,true,true,true,true,true,true,true,true,true,true,true,true,false,false,false,false,false,false,false,false,false,false] rfl rfl (zAN HT_.out (by kernel_rfl)) (fun _ _ _ h=>h) (Or.inl ⟨by rfl,?_⟩) ?_ ?_
 rotate_left
 ·intro w'
  go_simp
  with_reducible rfl
 rotate_left
 ·simp only [Act.put,List.setIfInBounds_toArray,List.set_cons_zero,List.set_cons_succ,zAO,zAP]
  rfl
 refine pure_ (i:=15) (N:=some 28) (v:=?_) (a':=?_) #[true,true,true,true,true,true,true,true,true,true,true,true,true,true,true,true,false,false,false,false,false,false,false,false,false] rfl rfl (zAN HT_.out (by kernel_rfl)) (fun _ _ _ h=>h) (Or.inl ⟨by rfl,?_⟩) ?_ ?_
 rotate_left
 ·intro w'
  go_simp
  with_reducible rfl
 rotate_left
 ·simp only [Act.put,List.setIfInBounds_toArray,List.set_cons_zero,List.set_cons_succ,zAO,zAP]
  rfl
 refine one_ (i:=16) (N:=some 29) #[true,true,true,true,true,true,true,true,true,true,true,true,true,true,true,true,true,false,false,false,false,false,false,false,false] rfl rfl (one_of HT_.out (by kernel_rfl)) (by decide) (fun K hK=>?_)
 refine goes_ Tryd.func17 (by kernel_rfl) rfl #[.int .i64 (-15)] (by rfl) rfl rfl aM_ ?_
 with_reducible refine (wide_Of.calls (-15) t244 t245 _ A8.out).mono ?_
 rintro e w18 ⟨rfl,hb⟩
 refine ⟨_,rfl,?_⟩
 have n0_:=aK_ (zAC (g:=gb239) (o:=.cells #[.int .i64 t236,.int .u64 t237] 27 (0,0)) (aB_ BK239.out) hb)
 have n1_:=aK_ (zAD (aI_ HB.out GE239.out) hb)
 clear BK239
 clear HB
 have BK239:=n0_
 have HB:=n1_
 clear n0_ n1_
 (try clear hb)
 (try clear hb2)
 (try clear hk)
 (try clear hi)
 refine hK.out _ _ ⟨(zAA BK239.out 0).trans rfl,(zAA BK239.out 1).trans rfl⟩ (fun hHeld=>?_)
 clear hK K
 refine norm_ (a':=?_) ?_ ?_
 rotate_left
 ·show Act.put _ (some 29) _=_
  simp only [Act.put,List.setIfInBounds_toArray,List.set_cons_zero,List.set_cons_succ,zAO,zAP]
  rfl
 refine one_ (i:=17) (N:=some 30) #[true,true,true,true,true,true,true,true,true,true,true,true,true,true,true,true,true,true,false,false,false,false,false,false,false] rfl rfl (one_of HT_.out (by kernel_rfl)) (by decide) (fun K hK=>?_)
 refine goes_ Tryd.func8 (by kernel_rfl) rfl #[.agg #[.int .i64 t244,.int .u64 t245]] (by rfl) rfl rfl aM_ ?_
 with_reducible refine (deci_Text.calls k t244 t245 t246 _ ?side1 A9.out).mono ?_
 (case side1=>(first|(with_reducible exact hG)|((repeat (with_reducible first|exact hG|apply GW.drewN|apply GW.drew|apply GW.alloc));done)|exact GW.below hG (aI_ HB.out GE239.out)))
 rintro e w19 ⟨rfl,hb⟩
 refine ⟨_,rfl,?_⟩
 have n0_:=aK_ (zAC (g:=gb239) (o:=.cells #[.int .i64 t236,.int .u64 t237] 27 (0,0)) (aB_ BK239.out) hb)
 have n1_:=aK_ (zAD (aI_ HB.out GE239.out) hb)
 clear BK239
 clear HB
 have BK239:=n0_
 have HB:=n1_
 clear n0_ n1_
 (try clear hb)
 (try clear hb2)
 (try clear hk)
 (try clear hi)
 refine hK.out _ _ ⟨(zAA BK239.out 0).trans rfl,(zAA BK239.out 1).trans rfl⟩ (fun hHeld=>?_)
 clear hK K
 refine norm_ (a':=?_) ?_ ?_
 rotate_left
 ·show Act.put _ (some 30) _=_
  simp only [Act.put,List.setIfInBounds_toArray,List.set_cons_zero,List.set_cons_succ,zAO,zAP]
  rfl
 refine pure_ (i:=18) (N:=some 31) (v:=?_) (a':=?_) #[true,true,true,true,true,true,true,true,true,true,true,true,true,true,true,true,true,true,true,false,false,false,false,false,false] rfl rfl (zAN HT_.out (by kernel_rfl)) (fun _ _ _ h=>h) (Or.inl ⟨by rfl,?_⟩) ?_ ?_
 rotate_left
 ·intro w'
  go_simp
  with_reducible rfl
 rotate_left
 ·simp only [Act.put,List.setIfInBounds_toArray,List.set_cons_zero,List.set_cons_succ,zAO,zAP]
  rfl
 refine pure_ (i:=19) (N:=some 32) (v:=?_) (a':=?_) #[true,true,true,true,true,true,true,true,true,true,true,true,true,true,true,true,true,true,true,true,false,false,false,false,false] rfl rfl (zAN HT_.out (by kernel_rfl)) (fun _ _ _ h=>h) (Or.inl ⟨by rfl,?_⟩) ?_ ?_
 rotate_left
 ·intro w'
  go_simp
  with_reducible rfl
 rotate_left
 ·simp only [Act.put,List.setIfInBounds_toArray,List.set_cons_zero,List.set_cons_succ,zAO,zAP]
  rfl
 refine pure_ (i:=20) (N:=some 33) (v:=?_) (a':=?_) #[true,true,true,true,true,true,true,true,true,true,true,true,true,true,true,true,true,true,true,true,true,false,false,false,false] rfl rfl (zAN HT_.out (by kernel_rfl)) (fun _ _ _ h=>h) (Or.inl ⟨by rfl,?_⟩) ?_ ?_
 rotate_left
 ·intro w'
  go_simp
  with_reducible rfl
 rotate_left
 ·simp only [Act.put,List.setIfInBounds_toArray,List.set_cons_zero,List.set_cons_succ,zAO,zAP]
  rfl
 refine one_ (i:=21) (N:=some 34) #[true,true,true,true,true,true,true,true,true,true,true,true,true,true,true,true,true,true,true,true,true,true,false,false,false] rfl rfl (one_of HT_.out (by kernel_rfl)) (by decide) (fun K hK=>?_)
 refine goes_ Tryd.func13 (by kernel_rfl) rfl #[.int .i64 (-5)] (by rfl) rfl rfl aM_ ?_
 with_reducible refine (deci_Money.calls k (-5) t247 _ ?side1 A11.out).mono ?_
 (case side1=>(first|(with_reducible exact hG)|((repeat (with_reducible first|exact hG|apply GW.drewN|apply GW.drew|apply GW.alloc));done)|exact GW.below hG (aI_ HB.out GE239.out)))
 rintro e w20 ⟨rfl,hb⟩
 refine ⟨_,rfl,?_⟩
 have n0_:=aK_ (zAC (g:=gb239) (o:=.cells #[.int .i64 t236,.int .u64 t237] 27 (0,0)) (aB_ BK239.out) hb)
 have n1_:=aK_ (zAD (aI_ HB.out GE239.out) hb)
 clear BK239
 clear HB
 have BK239:=n0_
 have HB:=n1_
 clear n0_ n1_
 (try clear hb)
 (try clear hb2)
 (try clear hk)
 (try clear hi)
 refine hK.out _ _ ⟨(zAA BK239.out 0).trans rfl,(zAA BK239.out 1).trans rfl⟩ (fun hHeld=>?_)
 clear hK K
 refine norm_ (a':=?_) ?_ ?_
 rotate_left
 ·show Act.put _ (some 34) _=_
  simp only [Act.put,List.setIfInBounds_toArray,List.set_cons_zero,List.set_cons_succ,zAO,zAP]
  rfl
 refine pure_ (i:=22) (N:=some 35) (v:=?_) (a':=?_) #[true,true,true,true,true,true,true,true,true,true,true,true,true,true,true,true,true,true,true,true,true,true,true,false,false] rfl rfl (zAN HT_.out (by kernel_rfl)) (fun _ _ _ h=>h) (Or.inl ⟨by rfl,?_⟩) ?_ ?_
 rotate_left
 ·intro w'
  go_simp
  with_reducible rfl
 rotate_left
 ·simp only [Act.put,List.setIfInBounds_toArray,List.set_cons_zero,List.set_cons_succ,zAO,zAP]
  rfl
 refine pure_ (i:=23) (N:=some 36) (v:=?_) (a':=?_) #[true,true,true,true,true,true,true,true,true,true,true,true,true,true,true,true,true,true,true,true,true,true,true,true,false] rfl rfl (zAN HT_.out (by kernel_rfl)) (fun _ _ _ h=>h) (Or.inl ⟨by rfl,?_⟩) ?_ ?_
 rotate_left
 ·intro w'
  go_simp
  with_reducible rfl
 rotate_left
 ·simp only [Act.put,List.setIfInBounds_toArray,List.set_cons_zero,List.set_cons_succ,zAO,zAP]
  rfl
 refine pure_ (i:=24) (N:=some 0) (v:=?_) (a':=?_) #[true,true,true,true,true,true,true,true,true,true,true,true,true,true,true,true,true,true,true,true,true,true,true,true,true] rfl rfl (zAN HT_.out (by kernel_rfl)) (fun _ _ _ h=>h) (Or.inl ⟨by rfl,?_⟩) ?_ ?_
 rotate_left
 ·intro w'
  go_simp
  with_reducible rfl
 rotate_left
 ·simp only [Act.put,List.setIfInBounds_toArray,List.set_cons_zero,List.set_cons_succ,zAO,zAP]
  rfl
 refine done_ (done_of HT_.out (by kernel_rfl)) ?_
 try go_wp2
 go_ret
 exact ⟨by first|rfl|(simp [zAK,zAJ] <;> rfl)|(simp [*,zAK,zAJ] <;> rfl),aI_ HB.out GE239.out⟩
end Go.Proofs.YtkikekiokclmdaaDoor.S

namespace Go.Proofs.YtkikekiokclmdaaDoor.S
open Go.RowKit Go.Proofs.YtkikekiokclmdaaDoorW.PrintWords Go.Proofs.YtkikekiokclmdaaDoorW.PrintLast Go.Proofs.YtkikekiokclmdaaDoorW.PrintMore
attribute [local go_sem] max2_int min2_int max_two min_two max_three min_three max_four min_four
attribute [local go_sem high] eqA27
mutual
def zAF.j0:Nat→ByteArray→Bool→Option (Bool)
 |0,_,_=>none
 |k+1,x2,x40=>if x40=true then (some false) else ((zAM.f k x2).bind fun bt327=>(if bt327.2.2=0 then ((deci_Text.f k bt327.1 bt327.2.1).bind fun t330=>(if t330.toList=x2.toList then (zAF.j1 k x2 false) else (zAF.j1 k x2 true))) else (if bt327.2.2=30 then (zAF.j1 k x2 (!(bt327.1 == 0) ||(!(bt327.2.1 == 0)))) else (if bt327.2.2=10 then (zAF.j1 k x2 (!(bt327.1 == 0) ||(!(bt327.2.1 == 0)))) else (zAF.j1 k x2 true)))))
def zAF.j1:Nat→ByteArray→Bool→Option (Bool)
 |0,_,_=>none
 |k+1,x2,x70=>if x70=true then (some false) else ((deci_Coins.f x2).bind fun bt331=>(if bt331.2=0 then ((deci_Money.f k bt331.1).bind fun t333=>(if t333.toList=x2.toList then (some true) else (some false))) else (if bt331.2=30 then (some (bt331.1 == 0)) else (if bt331.2=10 then (some (bt331.1 == 0)) else (some false)))))
end
def zAF.f (k:Nat) (a0_0:Int) (a0_1:Int) (a1:Int) (a2:ByteArray):Option (Bool):=(zAQ.f k).bind fun t318=>(if t318=true then ((deci_Text.f k a0_0 a0_1).bind fun t319=>((zAM.f k t319).bind fun bt320=>((deci_Money.f k a1).bind fun t324=>((deci_Coins.f t324).bind fun bt325=>(if bt320.2.2=0 then (if bt325.2=0 then (if (!(bt320.1 == a0_0) ||(!(bt320.2.1 == a0_1)))=true then (zAF.j0 k a2 true) else (zAF.j0 k a2 (bt325.1 != a1))) else (zAF.j0 k a2 true)) else (zAF.j0 k a2 true)))))) else (some false))
theorem zAF.mono_l:∀ k,(∀ y0 y1,LeO (zAF.j0 k y0 y1) (zAF.j0 (k+1) y0 y1))∧(∀ y0 y1,LeO (zAF.j1 k y0 y1) (zAF.j1 (k+1) y0 y1))
 |0=>⟨fun _ _ r h=>by simp [zAF.j0] at h,fun _ _ r h=>by simp [zAF.j1] at h⟩
 |k+1=>by
  obtain ⟨ih0,ih1⟩:=zAF.mono_l k
  refine ⟨?_,?_⟩
  ·intro y0 y1
   unfold zAF.j0
   repeat' first
   |(with_reducible exact ih0 _ _)
   |(with_reducible exact ih1 _ _)
   |(with_reducible exact deci_Money.mono _ _)
   |(with_reducible exact zAM.mono _ _)
   |(with_reducible exact deci_Text.mono _ _ _)
   |(with_reducible exact zAQ.mono _)
   |(with_reducible exact LeO.refl _)
   |(with_reducible exact LeO.none _)
   |(with_reducible refine LeO.ite ?_ ?_)
   |(with_reducible refine LeO.bind ?_ (fun _=>?_))
   |exact ih0 _ _
   |exact ih1 _ _
   |exact deci_Money.mono _ _
   |exact zAM.mono _ _
   |exact deci_Text.mono _ _ _
   |exact zAQ.mono _
   |exact LeO.none _
   |refine LeO.ite ?_ ?_
   |refine LeO.bind ?_ (fun _=>?_)
  ·intro y0 y1
   unfold zAF.j1
   repeat' first
   |(with_reducible exact ih0 _ _)
   |(with_reducible exact ih1 _ _)
   |(with_reducible exact deci_Money.mono _ _)
   |(with_reducible exact zAM.mono _ _)
   |(with_reducible exact deci_Text.mono _ _ _)
   |(with_reducible exact zAQ.mono _)
   |(with_reducible exact LeO.refl _)
   |(with_reducible exact LeO.none _)
   |(with_reducible refine LeO.ite ?_ ?_)
   |(with_reducible refine LeO.bind ?_ (fun _=>?_))
   |exact ih0 _ _
   |exact ih1 _ _
   |exact deci_Money.mono _ _
   |exact zAM.mono _ _
   |exact deci_Text.mono _ _ _
   |exact zAQ.mono _
   |exact LeO.none _
   |refine LeO.ite ?_ ?_
   |refine LeO.bind ?_ (fun _=>?_)
theorem zAF.mono:∀ a0 a1 a2 a3 k,LeO (zAF.f k a0 a1 a2 a3) (zAF.f (k+1) a0 a1 a2 a3):=by
 intro a0 a1 a2 a3 k
 obtain ⟨ih0,ih1⟩:=zAF.mono_l k
 unfold zAF.f
 repeat' first
   |(with_reducible exact ih0 _ _)
   |(with_reducible exact ih1 _ _)
   |(with_reducible exact deci_Money.mono _ _)
   |(with_reducible exact zAM.mono _ _)
   |(with_reducible exact deci_Text.mono _ _ _)
   |(with_reducible exact zAQ.mono _)
   |(with_reducible exact LeO.refl _)
   |(with_reducible exact LeO.none _)
   |(with_reducible refine LeO.ite ?_ ?_)
   |(with_reducible refine LeO.bind ?_ (fun _=>?_))
   |exact ih0 _ _
   |exact ih1 _ _
   |exact deci_Money.mono _ _
   |exact zAM.mono _ _
   |exact deci_Text.mono _ _ _
   |exact zAQ.mono _
   |exact LeO.none _
   |refine LeO.ite ?_ ?_
   |refine LeO.bind ?_ (fun _=>?_)
set_option maxHeartbeats 8000000 in
set_option maxRecDepth 100000 in
theorem zAF.calls (k:Nat) (a0_0:Int) (a0_1:Int) (a1:Int) (a2:ByteArray) (r:Bool) (w:World) (hG:GW w) (h:zAF.f k a0_0 a0_1 a1 a2=some r) :
  Calls Tryd.prog 5 #[.agg #[.int .i64 a0_0,.int .u64 a0_1],.int .i64 a1,.string a2] w fun e w'=>e = .returned (.bool r)∧Below w.heap.size w w':=by
 have hu27:=Tryd.underlying27
 have HB:=aK_ (Below.refl w.heap.size w)
 have H:((zAQ.f k).bind fun t318=>(if t318=true then ((deci_Text.f k a0_0 a0_1).bind fun t319=>((zAM.f k t319).bind fun bt320=>((deci_Money.f k a1).bind fun t324=>((deci_Coins.f t324).bind fun bt325=>(if bt320.2.2=0 then (if bt325.2=0 then (if (!(bt320.1 == a0_0) ||(!(bt320.2.1 == a0_1)))=true then (zAF.j0 k a2 true) else (zAF.j0 k a2 (bt325.1 != a1))) else (zAF.j0 k a2 true)) else (zAF.j0 k a2 true)))))) else (some false)))=some r:=h
 clear h
 replace H:=Option.bind_eq_some_iff.mp H
 obtain ⟨t318,A40,H⟩:=H
 replace H:(if t318=true then ((deci_Text.f k a0_0 a0_1).bind fun t319=>((zAM.f k t319).bind fun bt320=>((deci_Money.f k a1).bind fun t324=>((deci_Coins.f t324).bind fun bt325=>(if bt320.2.2=0 then (if bt325.2=0 then (if (!(bt320.1 == a0_0) ||(!(bt320.2.1 == a0_1)))=true then (zAF.j0 k a2 true) else (zAF.j0 k a2 (bt325.1 != a1))) else (zAF.j0 k a2 true)) else (zAF.j0 k a2 true)))))) else (some false))=some r:=H
 have A4:=aK_ A40
 clear A40
 by_cases c5:t318=true
 rotate_left
 ·replace c5:=Bool.eq_false_iff.mpr c5
  subst c5
  have H1:(some false)=some r:=by rw [if_neg (show ¬ (false=true) by decide)] at H;exact H
  clear H
  have H:=H1
  clear H1
  obtain rfl:=Option.some.inj H
  go_enter Tryd.func5,Tryd.ntmps5
  go_wp2_with (first|((with_reducible refine gate_dst (N:=3) rfl ?_);refine zAS ?hg (N:=3) ?hd (cs:=#[.int .i64 a0_0,.int .u64 a0_1]) (t:=27) ?hr ?_;(case hd=>rfl);(case hg=>rfl);(case hr=>first|(go_simp;done)|(go_simp;rfl));intro gb317 hg w65 hbox hb;have n0_:=aK_ (zAD (aH_ HB.out) hb);have n1_:=aK_ (hbox);have n2_:=aK_ ((by rw [hg];exact (zAE (aH_ HB.out)):w.heap.size≤gb317));have n3_:=aK_ ((by rw [hg];exact (zAE (aH_ HB.out)):w.heap.size≤gb317));clear HB;have HB:=n0_;have BK317:=n1_;have GW317:=n2_;have GE317:=n3_;clear n0_ n1_ n2_ n3_;clear hb hbox hg)|((with_reducible refine zAL (f:=7) rfl ?_);refine goesL_ (some 11) rfl rfl Tryd.func7 (by kernel_rfl) rfl #[] rfl aM_ ?_;(with_reducible refine (zAQ.calls k  false _ ?side1 A4.out).mono ?_);(case side1=>(first|(with_reducible exact hG)|((repeat (with_reducible first|exact hG|apply GW.drewN|apply GW.drew|apply GW.alloc));done)|exact GW.below hG (aI_ HB.out GE317.out)));rintro e w66 ⟨rfl,hb⟩;refine ⟨_,rfl,?_⟩;have n0_:=aK_ (zAC (g:=gb317) (o:=.cells #[.int .i64 a0_0,.int .u64 a0_1] 27 (0,0)) (aB_ BK317.out) hb);have n1_:=aK_ (zAD (aI_ HB.out GE317.out) hb);clear BK317;clear HB;have BK317:=n0_;have HB:=n1_;clear n0_ n1_;(try clear hb);(try clear hb2);(try clear hk);(try clear hi)))
  go_ret
  exact ⟨by first|rfl|(simp [zAK,zAJ] <;> rfl)|(simp [*,zAK,zAJ] <;> rfl),aI_ HB.out GE317.out⟩
 subst c5
 have H1:((deci_Text.f k a0_0 a0_1).bind fun t319=>((zAM.f k t319).bind fun bt320=>((deci_Money.f k a1).bind fun t324=>((deci_Coins.f t324).bind fun bt325=>(if bt320.2.2=0 then (if bt325.2=0 then (if (!(bt320.1 == a0_0) ||(!(bt320.2.1 == a0_1)))=true then (zAF.j0 k a2 true) else (zAF.j0 k a2 (bt325.1 != a1))) else (zAF.j0 k a2 true)) else (zAF.j0 k a2 true))))))=some r:=by rw [if_pos rfl] at H;exact H
 clear H
 have H:=H1
 clear H1
 replace H:=Option.bind_eq_some_iff.mp H
 obtain ⟨t319,A60,H⟩:=H
 replace H:((zAM.f k t319).bind fun bt320=>((deci_Money.f k a1).bind fun t324=>((deci_Coins.f t324).bind fun bt325=>(if bt320.2.2=0 then (if bt325.2=0 then (if (!(bt320.1 == a0_0) ||(!(bt320.2.1 == a0_1)))=true then (zAF.j0 k a2 true) else (zAF.j0 k a2 (bt325.1 != a1))) else (zAF.j0 k a2 true)) else (zAF.j0 k a2 true)))))=some r:=H
 have A6:=aK_ A60
 clear A60
 replace H:=Option.bind_eq_some_iff.mp H
 obtain ⟨⟨t320,t321,t322⟩,A70,H⟩:=H
 replace H:((deci_Money.f k a1).bind fun t324=>((deci_Coins.f t324).bind fun bt325=>(if t322=0 then (if bt325.2=0 then (if (!(t320 == a0_0) ||(!(t321 == a0_1)))=true then (zAF.j0 k a2 true) else (zAF.j0 k a2 (bt325.1 != a1))) else (zAF.j0 k a2 true)) else (zAF.j0 k a2 true))))=some r:=H
 have A7:=aK_ A70
 clear A70
 replace H:=Option.bind_eq_some_iff.mp H
 obtain ⟨t324,A80,H⟩:=H
 replace H:((deci_Coins.f t324).bind fun bt325=>(if t322=0 then (if bt325.2=0 then (if (!(t320 == a0_0) ||(!(t321 == a0_1)))=true then (zAF.j0 k a2 true) else (zAF.j0 k a2 (bt325.1 != a1))) else (zAF.j0 k a2 true)) else (zAF.j0 k a2 true)))=some r:=H
 have A8:=aK_ A80
 clear A80
 replace H:=Option.bind_eq_some_iff.mp H
 obtain ⟨⟨t325,t326⟩,A90,H⟩:=H
 replace H:(if t322=0 then (if t326=0 then (if (!(t320 == a0_0) ||(!(t321 == a0_1)))=true then (zAF.j0 k a2 true) else (zAF.j0 k a2 (t325 != a1))) else (zAF.j0 k a2 true)) else (zAF.j0 k a2 true))=some r:=H
 have A9:=aK_ A90
 clear A90
 have HC10:=aK_ H
 clear H
 go_enter Tryd.func5,Tryd.ntmps5
 go_upto_region 5 with (first|((with_reducible refine gate_dst (N:=3) rfl ?_);refine zAS ?hg (N:=3) ?hd (cs:=#[.int .i64 a0_0,.int .u64 a0_1]) (t:=27) ?hr ?_;(case hd=>rfl);(case hg=>rfl);(case hr=>first|(go_simp;done)|(go_simp;rfl));intro gb317 hg w11 hbox hb;have n0_:=aK_ (zAD (aH_ HB.out) hb);have n1_:=aK_ (hbox);have n2_:=aK_ ((by rw [hg];exact (zAE (aH_ HB.out)):w.heap.size≤gb317));have n3_:=aK_ ((by rw [hg];exact (zAE (aH_ HB.out)):w.heap.size≤gb317));clear HB;have HB:=n0_;have BK317:=n1_;have GW317:=n2_;have GE317:=n3_;clear n0_ n1_ n2_ n3_;clear hb hbox hg)|((with_reducible refine zAL (f:=7) rfl ?_);refine goesL_ (some 11) rfl rfl Tryd.func7 (by kernel_rfl) rfl #[] rfl aM_ ?_;(with_reducible refine (zAQ.calls k  true _ ?side1 A4.out).mono ?_);(case side1=>(first|(with_reducible exact hG)|((repeat (with_reducible first|exact hG|apply GW.drewN|apply GW.drew|apply GW.alloc));done)|exact GW.below hG (aI_ HB.out GE317.out)));rintro e w12 ⟨rfl,hb⟩;refine ⟨_,rfl,?_⟩;have n0_:=aK_ (zAC (g:=gb317) (o:=.cells #[.int .i64 a0_0,.int .u64 a0_1] 27 (0,0)) (aB_ BK317.out) hb);have n1_:=aK_ (zAD (aI_ HB.out GE317.out) hb);clear BK317;clear HB;have BK317:=n0_;have HB:=n1_;clear n0_ n1_;(try clear hb);(try clear hb2);(try clear hk);(try clear hi);have hcz13_0:w12.cell? ⟨gb317,0,none⟩=some (.int .i64 a0_0):=(zAA BK317.out 0).trans rfl;have hcz13_1:w12.cell? ⟨gb317,1,none⟩=some (.int .u64 a0_1):=(zAA BK317.out 1).trans rfl;have hfz13_0:=zAB BK317.out 0;have hfz13_1:=zAB BK317.out 1)|((with_reducible refine zAL (f:=8) rfl ?_);refine goesL_ (some 15) rfl rfl Tryd.func8 (by kernel_rfl) rfl #[.agg #[.int .i64 a0_0,.int .u64 a0_1]] rfl aM_ ?_;(with_reducible refine (deci_Text.calls k a0_0 a0_1 t319 _ ?side1 A6.out).mono ?_);(case side1=>(first|(with_reducible exact hG)|((repeat (with_reducible first|exact hG|apply GW.drewN|apply GW.drew|apply GW.alloc));done)|exact GW.below hG (aI_ HB.out GE317.out)));rintro e w14 ⟨rfl,hb⟩;refine ⟨_,rfl,?_⟩;have n0_:=aK_ (zAC (g:=gb317) (o:=.cells #[.int .i64 a0_0,.int .u64 a0_1] 27 (0,0)) (aB_ BK317.out) hb);have n1_:=aK_ (zAD (aI_ HB.out GE317.out) hb);clear BK317;clear HB;have BK317:=n0_;have HB:=n1_;clear n0_ n1_;(try clear hb);(try clear hb2);(try clear hk);(try clear hi))|((with_reducible refine zAL (f:=10) rfl ?_);refine goesL_ (some 16) rfl rfl Tryd.func10 (by kernel_rfl) rfl #[.string t319] rfl aM_ ?_;(with_reducible refine (zAM.calls k t319 t320 t321 t322 _ A7.out).mono ?_);rintro e w15 ⟨rfl,hb⟩;refine ⟨_,rfl,?_⟩;have n0_:=aK_ (zAC (g:=gb317) (o:=.cells #[.int .i64 a0_0,.int .u64 a0_1] 27 (0,0)) (aB_ BK317.out) hb);have n1_:=aK_ (zAD (aI_ HB.out GE317.out) hb);clear BK317;clear HB;have BK317:=n0_;have HB:=n1_;clear n0_ n1_;(try clear hb);(try clear hb2);(try clear hk);(try clear hi))|((with_reducible refine gate_dst (N:=7) rfl ?_);refine zAS ?hg (N:=7) ?hd (cs:=#[.int .i64 0,.int .u64 0]) (t:=27) ?hr ?_;(case hd=>rfl);(case hg=>rfl);(case hr=>first|(go_simp;done)|(go_simp;rfl));intro gb323 hg w16 hbox hb;have n0_:=aK_ (zAC (g:=gb317) (o:=.cells #[.int .i64 a0_0,.int .u64 a0_1] 27 (0,0)) (aB_ BK317.out) hb);have n1_:=aK_ (zAD (aI_ HB.out GE317.out) hb);have n2_:=aK_ (hbox);have n3_:=aK_ ((by rw [hg];exact (zAE (aI_ HB.out GE317.out)):w.heap.size≤gb323));have n4_:=aK_ ((by rw [hg];exact (zAE (aI_ HB.out GE317.out)):w.heap.size≤gb323));have n5_:=aK_ ((by rw [hg];exact Nat.ne_of_lt (zAH (g:=gb317) (o:=.cells #[.int .i64 a0_0,.int .u64 a0_1] 27 (0,0)) (aB_ BK317.out)):gb317≠gb323));have n6_:=aK_ ((by rw [hg];exact Nat.ne_of_gt (zAH (g:=gb317) (o:=.cells #[.int .i64 a0_0,.int .u64 a0_1] 27 (0,0)) (aB_ BK317.out)):gb323≠gb317));clear BK317;clear HB;have BK317:=n0_;have HB:=n1_;have BK323:=n2_;have GW323:=n3_;have GE323:=n4_;have NB317_323:=n5_;have NB323_317:=n6_;clear n0_ n1_ n2_ n3_ n4_ n5_ n6_;clear hb hbox hg;have hnb17:=NB323_317.out;have hnc17:=NB317_323.out;have hcz18_0:w16.cell? ⟨gb323,0,none⟩=some (.int .i64 0):=(zAA BK323.out 0).trans rfl;have hcz18_1:w16.cell? ⟨gb323,1,none⟩=some (.int .u64 0):=(zAA BK323.out 1).trans rfl;have hfz18_0:=zAB BK323.out 0;have hfz18_1:=zAB BK323.out 1)|((with_reducible refine zAL (f:=13) rfl ?_);refine goesL_ (some 21) rfl rfl Tryd.func13 (by kernel_rfl) rfl #[.int .i64 a1] rfl aM_ ?_;(with_reducible refine (deci_Money.calls k a1 t324 _ ?side1 A8.out).mono ?_);(case side1=>(first|(with_reducible exact hG)|((repeat (with_reducible first|exact hG|apply GW.drewN|apply GW.drew|apply GW.alloc));done)|exact GW.below hG (aJ_ HB.out GE317.out GE323.out)));rintro e w19 ⟨rfl,hb⟩;refine ⟨_,rfl,?_⟩;have n0_:=aK_ (zAC (g:=gb317) (o:=.cells #[.int .i64 a0_0,.int .u64 a0_1] 27 (0,0)) (by refine aB_ ?_;refine zAV ?_ NB317_323.out _;refine aB_ ?_;refine zAV ?_ NB317_323.out _;refine aB_ ?_;exact BK317.out) hb);have n1_:=aK_ (zAC (g:=gb323) (o:=.cells #[.int .i64 t320,.int .u64 t321] 27 (0,0)) (by refine aB_ ?_;refine zAU (cs:=#[.int .i64 t320,.int .u64 0]) ?_ 1 _ rfl;refine aB_ ?_;refine zAU (cs:=#[.int .i64 0,.int .u64 0]) ?_ 0 _ rfl;refine aB_ ?_;exact BK323.out) hb);have n2_:=aK_ (zAD (aJ_ HB.out GE317.out GE323.out) hb);clear BK317;clear BK323;clear HB;have BK317:=n0_;have BK323:=n1_;have HB:=n2_;clear n0_ n1_ n2_;(try clear hb);(try clear hb2);(try clear hk);(try clear hi))|((with_reducible refine zAL (f:=12) rfl ?_);refine goesL_ (some 22) rfl rfl Tryd.func12 (by kernel_rfl) rfl #[.string t324] rfl aM_ ?_;(with_reducible refine (deci_Coins.calls t324 t325 t326 _ ?side1 A9.out).mono ?_);(case side1=>(first|(with_reducible exact hG)|((repeat (with_reducible first|exact hG|apply GW.drewN|apply GW.drew|apply GW.alloc));done)|exact GW.below hG (aJ_ HB.out GE317.out GE323.out)));rintro e w20 ⟨rfl,hb⟩;refine ⟨_,rfl,?_⟩;have n0_:=aK_ (zAC (g:=gb317) (o:=.cells #[.int .i64 a0_0,.int .u64 a0_1] 27 (0,0)) (aB_ BK317.out) hb);have n1_:=aK_ (zAC (g:=gb323) (o:=.cells #[.int .i64 t320,.int .u64 t321] 27 (0,0)) (aB_ BK323.out) hb);have n2_:=aK_ (zAD (aJ_ HB.out GE317.out GE323.out) hb);clear BK317;clear BK323;clear HB;have BK317:=n0_;have BK323:=n1_;have HB:=n2_;clear n0_ n1_ n2_;(try clear hb);(try clear hb2);(try clear hk);(try clear hi)))
 (try simp only [Act.put,List.setIfInBounds_toArray,List.set_cons_zero,List.set_cons_succ])
 go_cut [40] (fun v40 wc=>∃ (kq:Nat) (x40_9:Bool),v40 = .bool x40_9∧zAG (zAF.j0 kq a2 x40_9=some r)∧zAG (kq≤k)∧zAG (wc.heap[gb317]?=some (.cells #[.int .i64 a0_0,.int .u64 a0_1] 27 (0,0)))∧zAG (wc.heap[gb323]?=some (.cells #[.int .i64 t320,.int .u64 t321] 27 (0,0)))∧zAG (Below w.heap.size w wc))
 case first =>
  have H:=HC10.out
  clear HC10
  by_cases c21:t322=0
  rotate_left
  ·rw [if_neg c21] at H
   have c21b0:(t322 == 0)=false:=beq_eq_false_iff_ne.mpr c21
   have c21b1:(t322 != 0)=true:=bne_iff_ne.mpr c21
   (first|rw [c21b0]|(simp only [zAO,zAP];rw [c21b0])|skip)
   have H':=aK_ H
   clear H
   go_wp2
   go_meet
   case rel=>exact ⟨_,(true),aS2_,H',⟨by first|omega|exact Nat.le_refl _⟩,⟨aB_ BK317.out⟩,⟨aB_ BK323.out⟩,⟨aJ_ HB.out GE317.out GE323.out⟩⟩
  rw [if_pos c21] at H
  have c21b0:(t322 == 0)=true:=beq_iff_eq.mpr c21
  have c21b1:(t322 != 0)=false:=bne_eq_false_iff_eq.mpr c21
  clear c21
  (first|rw [c21b0]|(simp only [zAO,zAP];rw [c21b0])|skip)
  by_cases c22:t326=0
  rotate_left
  ·rw [if_neg c22] at H
   have c22b0:(t326 == 0)=false:=beq_eq_false_iff_ne.mpr c22
   have c22b1:(t326 != 0)=true:=bne_iff_ne.mpr c22
   have H':=aK_ H
   clear H
   go_wp2
   go_meet
   case rel=>exact ⟨_,(true),aS2_,H',⟨by first|omega|exact Nat.le_refl _⟩,⟨aB_ BK317.out⟩,⟨aB_ BK323.out⟩,⟨aJ_ HB.out GE317.out GE323.out⟩⟩
  rw [if_pos c22] at H
  have c22b0:(t326 == 0)=true:=beq_iff_eq.mpr c22
  have c22b1:(t326 != 0)=false:=bne_eq_false_iff_eq.mpr c22
  clear c22
  by_cases c23:(!(t320 == a0_0) ||(!(t321 == a0_1)))=true
  ·rw [if_pos c23] at H
   have c23b0:(!(t320 == a0_0) ||(!(t321 == a0_1)))=true:=c23
   clear c23
   have H':=aK_ H
   clear H
   have hnb24:=NB323_317.out
   have hnc24:=NB317_323.out
   have hcz25_0:w20.cell? ⟨gb323,0,none⟩=some (.int .i64 t320):=(zAA BK323.out 0).trans rfl
   have hcz25_1:w20.cell? ⟨gb323,1,none⟩=some (.int .u64 t321):=(zAA BK323.out 1).trans rfl
   have hfz25_0:=zAB BK323.out 0
   have hfz25_1:=zAB BK323.out 1
   have hcz26_0:w20.cell? ⟨gb317,0,none⟩=some (.int .i64 a0_0):=(zAA BK317.out 0).trans rfl
   have hcz26_1:w20.cell? ⟨gb317,1,none⟩=some (.int .u64 a0_1):=(zAA BK317.out 1).trans rfl
   have hfz26_0:=zAB BK317.out 0
   have hfz26_1:=zAB BK317.out 1
   go_wp2
   go_meet
   case rel=>exact ⟨_,(true),aS2_,H',⟨by first|omega|exact Nat.le_refl _⟩,⟨aB_ BK317.out⟩,⟨aB_ BK323.out⟩,⟨aJ_ HB.out GE317.out GE323.out⟩⟩
  rw [if_neg c23] at H
  have c23b0:(!(t320 == a0_0) ||(!(t321 == a0_1)))=false:=by simpa using c23
  clear c23
  have H':=aK_ H
  clear H
  have hnb27:=NB323_317.out
  have hnc27:=NB317_323.out
  have hcz28_0:w20.cell? ⟨gb323,0,none⟩=some (.int .i64 t320):=(zAA BK323.out 0).trans rfl
  have hcz28_1:w20.cell? ⟨gb323,1,none⟩=some (.int .u64 t321):=(zAA BK323.out 1).trans rfl
  have hfz28_0:=zAB BK323.out 0
  have hfz28_1:=zAB BK323.out 1
  have hcz29_0:w20.cell? ⟨gb317,0,none⟩=some (.int .i64 a0_0):=(zAA BK317.out 0).trans rfl
  have hcz29_1:w20.cell? ⟨gb317,1,none⟩=some (.int .u64 a0_1):=(zAA BK317.out 1).trans rfl
  have hfz29_0:=zAB BK317.out 0
  have hfz29_1:=zAB BK317.out 1
  go_wp2
  go_meet
  case rel=>exact ⟨_,((t325 != a1)),aS2_,H',⟨by first|omega|exact Nat.le_refl _⟩,⟨aB_ BK317.out⟩,⟨aB_ BK323.out⟩,⟨aJ_ HB.out GE317.out GE323.out⟩⟩
 clear HC10
 try clear c1
 try clear c2
 try clear p2
 try clear c5
 try clear c7
 try clear c8
 try clear c10
 try clear c12
 try clear c13
 try clear c17
 try clear c21
 try clear c21b0
 try clear c21b1
 try clear c22
 try clear c22b0
 try clear c22b1
 try clear c23
 try clear c23b0
 try clear c24
 try clear c27
 try clear hcz13_0
 try clear hcz13_1
 try clear hcz18_0
 try clear hcz18_1
 try clear hcz25_0
 try clear hcz25_1
 try clear hcz26_0
 try clear hcz26_1
 try clear hcz28_0
 try clear hcz28_1
 try clear hcz29_0
 try clear hcz29_1
 try clear hfz13_0
 try clear hfz13_1
 try clear hfz18_0
 try clear hfz18_1
 try clear hfz25_0
 try clear hfz25_1
 try clear hfz26_0
 try clear hfz26_1
 try clear hfz28_0
 try clear hfz28_1
 try clear hfz29_0
 try clear hfz29_1
 obtain ⟨kq,x40_9,rfl,HA,HJ9,BK317,BK323,HB⟩:=hcut
 cases kq with
 |zero=>exact absurd HA.out (by simp [zAF.j0])
 |succ kj9=>?_
 have H:=HA.out
 clear HA
 simp only [zAF.j0] at H
 by_cases c30:x40_9=true
 ·subst c30
  have H1:(some false)=some r:=by rw [if_pos rfl] at H;exact H
  clear H
  have H:=H1
  clear H1
  obtain rfl:=Option.some.inj H
  go_wp2
  go_ret
  exact ⟨by first|rfl|(simp [zAK,zAJ] <;> rfl)|(simp [*,zAK,zAJ] <;> rfl),aJ_ HB.out GE317.out GE323.out⟩
 replace c30:=Bool.eq_false_iff.mpr c30
 subst c30
 have H1:((zAM.f kj9 a2).bind fun bt327=>(if bt327.2.2=0 then ((deci_Text.f kj9 bt327.1 bt327.2.1).bind fun t330=>(if t330.toList=a2.toList then (zAF.j1 kj9 a2 false) else (zAF.j1 kj9 a2 true))) else (if bt327.2.2=30 then (zAF.j1 kj9 a2 (!(bt327.1 == 0) ||(!(bt327.2.1 == 0)))) else (if bt327.2.2=10 then (zAF.j1 kj9 a2 (!(bt327.1 == 0) ||(!(bt327.2.1 == 0)))) else (zAF.j1 kj9 a2 true)))))=some r:=by rw [if_neg (show ¬ (false=true) by decide)] at H;exact H
 clear H
 have H:=H1
 clear H1
 replace H:=Option.bind_eq_some_iff.mp H
 obtain ⟨⟨t327,t328,t329⟩,A310,H⟩:=H
 replace H:(if t329=0 then ((deci_Text.f kj9 t327 t328).bind fun t330=>(if t330.toList=a2.toList then (zAF.j1 kj9 a2 false) else (zAF.j1 kj9 a2 true))) else (if t329=30 then (zAF.j1 kj9 a2 (!(t327 == 0) ||(!(t328 == 0)))) else (if t329=10 then (zAF.j1 kj9 a2 (!(t327 == 0) ||(!(t328 == 0)))) else (zAF.j1 kj9 a2 true))))=some r:=H
 have A31:=aK_ A310
 clear A310
 have HC32:=aK_ H
 clear H
 go_upto_region 8 with (first|((with_reducible refine zAL (f:=10) rfl ?_);refine goesL_ (some 43) rfl rfl Tryd.func10 (by kernel_rfl) rfl #[.string a2] rfl aM_ ?_;(with_reducible refine (zAM.calls kj9 a2 t327 t328 t329 _ A31.out).mono ?_);rintro e w33 ⟨rfl,hb⟩;refine ⟨_,rfl,?_⟩;have n0_:=aK_ (zAC (g:=gb317) (o:=.cells #[.int .i64 a0_0,.int .u64 a0_1] 27 (0,0)) (aB_ BK317.out) hb);have n1_:=aK_ (zAC (g:=gb323) (o:=.cells #[.int .i64 t320,.int .u64 t321] 27 (0,0)) (aB_ BK323.out) hb);have n2_:=aK_ (zAD (aJ_ HB.out GE317.out GE323.out) hb);clear BK317;clear BK323;clear HB;have BK317:=n0_;have BK323:=n1_;have HB:=n2_;clear n0_ n1_ n2_;(try clear hb);(try clear hb2);(try clear hk);(try clear hi);have hnb34:=NB323_317.out;have hnc34:=NB317_323.out;have hcz35_0:w33.cell? ⟨gb323,0,none⟩=some (.int .i64 t320):=(zAA BK323.out 0).trans rfl;have hcz35_1:w33.cell? ⟨gb323,1,none⟩=some (.int .u64 t321):=(zAA BK323.out 1).trans rfl;have hfz35_0:=zAB BK323.out 0;have hfz35_1:=zAB BK323.out 1))
 (try simp only [Act.put,List.setIfInBounds_toArray,List.set_cons_zero,List.set_cons_succ])
 go_cut [70] (fun v70 wc=>∃ (kq:Nat) (x70_31:Bool),v70 = .bool x70_31∧zAG (zAF.j1 kq a2 x70_31=some r)∧zAG (kq≤kj9)∧zAG (wc.heap[gb317]?=some (.cells #[.int .i64 a0_0,.int .u64 a0_1] 27 (0,0)))∧zAG (wc.heap[gb323]?=some (.cells #[.int .i64 t327,.int .u64 t328] 27 (0,0)))∧zAG (Below w.heap.size w wc))
 case first =>
  have H:=HC32.out
  clear HC32
  by_cases c36:t329=0
  rotate_left
  ·rw [if_neg c36] at H
   have c36b0:(t329 == 0)=false:=beq_eq_false_iff_ne.mpr c36
   have c36b1:(t329 != 0)=true:=bne_iff_ne.mpr c36
   (first|rw [c36b0]|(simp only [zAO,zAP];rw [c36b0])|skip)
   by_cases c45:t329=30
   ·rw [if_pos c45] at H
    have c45b0:(t329 == 30)=true:=beq_iff_eq.mpr c45
    have c45b1:(t329 != 30)=false:=bne_eq_false_iff_eq.mpr c45
    clear c45
    have H':=aK_ H
    clear H
    have hnb46:=NB323_317.out
    have hnc46:=NB317_323.out
    have hcz47_0:w33.cell? ⟨gb323,0,none⟩=some (.int .i64 t320):=(zAA BK323.out 0).trans rfl
    have hcz47_1:w33.cell? ⟨gb323,1,none⟩=some (.int .u64 t321):=(zAA BK323.out 1).trans rfl
    have hfz47_0:=zAB BK323.out 0
    have hfz47_1:=zAB BK323.out 1
    go_wp2
    go_meet
    case rel=>exact ⟨_,((!(t327 == 0) ||(!(t328 == 0)))),aS2_,H',⟨by have:=HJ9.out;first|omega|exact Nat.le_refl _⟩,⟨by refine aB_ ?_;refine zAV ?_ NB317_323.out _;refine aB_ ?_;refine zAV ?_ NB317_323.out _;refine aB_ ?_;exact BK317.out⟩,⟨by refine aB_ ?_;refine zAU (cs:=#[.int .i64 t327,.int .u64 t321]) ?_ 1 _ rfl;refine aB_ ?_;refine zAU (cs:=#[.int .i64 t320,.int .u64 t321]) ?_ 0 _ rfl;refine aB_ ?_;exact BK323.out⟩,⟨aJ_ HB.out GE317.out GE323.out⟩⟩
   rw [if_neg c45] at H
   have c45b0:(t329 == 30)=false:=beq_eq_false_iff_ne.mpr c45
   have c45b1:(t329 != 30)=true:=bne_iff_ne.mpr c45
   by_cases c48:t329=10
   rotate_left
   ·rw [if_neg c48] at H
    have c48b0:(t329 == 10)=false:=beq_eq_false_iff_ne.mpr c48
    have c48b1:(t329 != 10)=true:=bne_iff_ne.mpr c48
    have H':=aK_ H
    clear H
    go_wp2
    go_meet
    case rel=>exact ⟨_,(true),aS2_,H',⟨by have:=HJ9.out;first|omega|exact Nat.le_refl _⟩,⟨by refine aB_ ?_;refine zAV ?_ NB317_323.out _;refine aB_ ?_;refine zAV ?_ NB317_323.out _;refine aB_ ?_;exact BK317.out⟩,⟨by refine aB_ ?_;refine zAU (cs:=#[.int .i64 t327,.int .u64 t321]) ?_ 1 _ rfl;refine aB_ ?_;refine zAU (cs:=#[.int .i64 t320,.int .u64 t321]) ?_ 0 _ rfl;refine aB_ ?_;exact BK323.out⟩,⟨aJ_ HB.out GE317.out GE323.out⟩⟩
   rw [if_pos c48] at H
   have c48b0:(t329 == 10)=true:=beq_iff_eq.mpr c48
   have c48b1:(t329 != 10)=false:=bne_eq_false_iff_eq.mpr c48
   clear c48
   have H':=aK_ H
   clear H
   have hnb49:=NB323_317.out
   have hnc49:=NB317_323.out
   have hcz50_0:w33.cell? ⟨gb323,0,none⟩=some (.int .i64 t320):=(zAA BK323.out 0).trans rfl
   have hcz50_1:w33.cell? ⟨gb323,1,none⟩=some (.int .u64 t321):=(zAA BK323.out 1).trans rfl
   have hfz50_0:=zAB BK323.out 0
   have hfz50_1:=zAB BK323.out 1
   go_wp2
   go_meet
   case rel=>exact ⟨_,((!(t327 == 0) ||(!(t328 == 0)))),aS2_,H',⟨by have:=HJ9.out;first|omega|exact Nat.le_refl _⟩,⟨by refine aB_ ?_;refine zAV ?_ NB317_323.out _;refine aB_ ?_;refine zAV ?_ NB317_323.out _;refine aB_ ?_;exact BK317.out⟩,⟨by refine aB_ ?_;refine zAU (cs:=#[.int .i64 t327,.int .u64 t321]) ?_ 1 _ rfl;refine aB_ ?_;refine zAU (cs:=#[.int .i64 t320,.int .u64 t321]) ?_ 0 _ rfl;refine aB_ ?_;exact BK323.out⟩,⟨aJ_ HB.out GE317.out GE323.out⟩⟩
  rw [if_pos c36] at H
  have c36b0:(t329 == 0)=true:=beq_iff_eq.mpr c36
  have c36b1:(t329 != 0)=false:=bne_eq_false_iff_eq.mpr c36
  clear c36
  (first|rw [c36b0]|(simp only [zAO,zAP];rw [c36b0])|skip)
  replace H:=Option.bind_eq_some_iff.mp H
  obtain ⟨t330,A370,H⟩:=H
  replace H:(if t330.toList=a2.toList then (zAF.j1 kj9 a2 false) else (zAF.j1 kj9 a2 true))=some r:=H
  have A37:=aK_ A370
  clear A370
  by_cases c38:t330.toList=a2.toList
  rotate_left
  ·rw [if_neg c38] at H
   have c38b0:(t330.toList == a2.toList)=false:=beq_eq_false_iff_ne.mpr c38
   have c38b1:(t330.toList != a2.toList)=true:=bne_iff_ne.mpr c38
   have H':=aK_ H
   clear H
   have hnb42:=NB323_317.out
   have hnc42:=NB317_323.out
   have hcz43_0:w33.cell? ⟨gb323,0,none⟩=some (.int .i64 t320):=(zAA BK323.out 0).trans rfl
   have hcz43_1:w33.cell? ⟨gb323,1,none⟩=some (.int .u64 t321):=(zAA BK323.out 1).trans rfl
   have hfz43_0:=zAB BK323.out 0
   have hfz43_1:=zAB BK323.out 1
   go_wp2_with (first|(go_at_call 8;(with_reducible refine (deci_Text.calls kj9 t327 t328 t330 _ ?side1 A37.out).mono ?_);(case side1=>(first|(with_reducible exact hG)|((repeat (with_reducible first|exact hG|apply GW.drewN|apply GW.drew|apply GW.alloc));done)|exact GW.below hG (aJ_ HB.out GE317.out GE323.out)));rintro e w44 ⟨rfl,hb⟩;have n0_:=aK_ (zAC (g:=gb317) (o:=.cells #[.int .i64 a0_0,.int .u64 a0_1] 27 (0,0)) (by refine aB_ ?_;refine zAV ?_ NB317_323.out _;refine aB_ ?_;refine zAV ?_ NB317_323.out _;refine aB_ ?_;exact BK317.out) hb);have n1_:=aK_ (zAC (g:=gb323) (o:=.cells #[.int .i64 t327,.int .u64 t328] 27 (0,0)) (by refine aB_ ?_;refine zAU (cs:=#[.int .i64 t327,.int .u64 t321]) ?_ 1 _ rfl;refine aB_ ?_;refine zAU (cs:=#[.int .i64 t320,.int .u64 t321]) ?_ 0 _ rfl;refine aB_ ?_;exact BK323.out) hb);have n2_:=aK_ (zAD (aJ_ HB.out GE317.out GE323.out) hb);clear BK317;clear BK323;clear HB;have BK317:=n0_;have BK323:=n1_;have HB:=n2_;clear n0_ n1_ n2_;(try clear hb);(try clear hb2);(try clear hk);(try clear hi)))
   go_meet
   case rel=>exact ⟨_,(true),aS2_,H',⟨by have:=HJ9.out;first|omega|exact Nat.le_refl _⟩,⟨aB_ BK317.out⟩,⟨aB_ BK323.out⟩,⟨aJ_ HB.out GE317.out GE323.out⟩⟩
  rw [if_pos c38] at H
  have c38b0:(t330.toList == a2.toList)=true:=beq_iff_eq.mpr c38
  have c38b1:(t330.toList != a2.toList)=false:=bne_eq_false_iff_eq.mpr c38
  clear c38
  have H':=aK_ H
  clear H
  have hnb39:=NB323_317.out
  have hnc39:=NB317_323.out
  have hcz40_0:w33.cell? ⟨gb323,0,none⟩=some (.int .i64 t320):=(zAA BK323.out 0).trans rfl
  have hcz40_1:w33.cell? ⟨gb323,1,none⟩=some (.int .u64 t321):=(zAA BK323.out 1).trans rfl
  have hfz40_0:=zAB BK323.out 0
  have hfz40_1:=zAB BK323.out 1
  go_wp2_with (first|(go_at_call 8;(with_reducible refine (deci_Text.calls kj9 t327 t328 t330 _ ?side1 A37.out).mono ?_);(case side1=>(first|(with_reducible exact hG)|((repeat (with_reducible first|exact hG|apply GW.drewN|apply GW.drew|apply GW.alloc));done)|exact GW.below hG (aJ_ HB.out GE317.out GE323.out)));rintro e w41 ⟨rfl,hb⟩;have n0_:=aK_ (zAC (g:=gb317) (o:=.cells #[.int .i64 a0_0,.int .u64 a0_1] 27 (0,0)) (by refine aB_ ?_;refine zAV ?_ NB317_323.out _;refine aB_ ?_;refine zAV ?_ NB317_323.out _;refine aB_ ?_;exact BK317.out) hb);have n1_:=aK_ (zAC (g:=gb323) (o:=.cells #[.int .i64 t327,.int .u64 t328] 27 (0,0)) (by refine aB_ ?_;refine zAU (cs:=#[.int .i64 t327,.int .u64 t321]) ?_ 1 _ rfl;refine aB_ ?_;refine zAU (cs:=#[.int .i64 t320,.int .u64 t321]) ?_ 0 _ rfl;refine aB_ ?_;exact BK323.out) hb);have n2_:=aK_ (zAD (aJ_ HB.out GE317.out GE323.out) hb);clear BK317;clear BK323;clear HB;have BK317:=n0_;have BK323:=n1_;have HB:=n2_;clear n0_ n1_ n2_;(try clear hb);(try clear hb2);(try clear hk);(try clear hi)))
  go_meet
  case rel=>exact ⟨_,(false),aS2_,H',⟨by have:=HJ9.out;first|omega|exact Nat.le_refl _⟩,⟨aB_ BK317.out⟩,⟨aB_ BK323.out⟩,⟨aJ_ HB.out GE317.out GE323.out⟩⟩
 clear HC32
 try clear c1
 try clear c2
 try clear p2
 try clear c3
 try clear c4
 try clear c5
 try clear c7
 try clear c8
 try clear c10
 try clear c12
 try clear c13
 try clear c17
 try clear c21
 try clear c21b0
 try clear c21b1
 try clear c22
 try clear c22b0
 try clear c22b1
 try clear c23
 try clear c23b0
 try clear c24
 try clear c27
 try clear c30
 try clear c34
 try clear c36
 try clear c36b0
 try clear c36b1
 try clear c38
 try clear c38b0
 try clear c38b1
 try clear c39
 try clear c42
 try clear c45
 try clear c45b0
 try clear c45b1
 try clear c46
 try clear c48
 try clear c48b0
 try clear c48b1
 try clear c49
 try clear hcz13_0
 try clear hcz13_1
 try clear hcz18_0
 try clear hcz18_1
 try clear hcz25_0
 try clear hcz25_1
 try clear hcz26_0
 try clear hcz26_1
 try clear hcz28_0
 try clear hcz28_1
 try clear hcz29_0
 try clear hcz29_1
 try clear hcz35_0
 try clear hcz35_1
 try clear hcz40_0
 try clear hcz40_1
 try clear hcz43_0
 try clear hcz43_1
 try clear hcz47_0
 try clear hcz47_1
 try clear hcz50_0
 try clear hcz50_1
 try clear hfz13_0
 try clear hfz13_1
 try clear hfz18_0
 try clear hfz18_1
 try clear hfz25_0
 try clear hfz25_1
 try clear hfz26_0
 try clear hfz26_1
 try clear hfz28_0
 try clear hfz28_1
 try clear hfz29_0
 try clear hfz29_1
 try clear hfz35_0
 try clear hfz35_1
 try clear hfz40_0
 try clear hfz40_1
 try clear hfz43_0
 try clear hfz43_1
 try clear hfz47_0
 try clear hfz47_1
 try clear hfz50_0
 try clear hfz50_1
 try clear p2
 obtain ⟨kq,x70_31,rfl,HA,HJ31,BK317,BK323,HB⟩:=hcut
 cases kq with
 |zero=>exact absurd HA.out (by simp [zAF.j1])
 |succ kj31=>?_
 have H:=HA.out
 clear HA
 simp only [zAF.j1] at H
 by_cases c51:x70_31=true
 ·subst c51
  have H1:(some false)=some r:=by rw [if_pos rfl] at H;exact H
  clear H
  have H:=H1
  clear H1
  obtain rfl:=Option.some.inj H
  go_wp2
  go_ret
  exact ⟨by first|rfl|(simp [zAK,zAJ] <;> rfl)|(simp [*,zAK,zAJ] <;> rfl),aJ_ HB.out GE317.out GE323.out⟩
 replace c51:=Bool.eq_false_iff.mpr c51
 subst c51
 have H1:((deci_Coins.f a2).bind fun bt331=>(if bt331.2=0 then ((deci_Money.f kj31 bt331.1).bind fun t333=>(if t333.toList=a2.toList then (some true) else (some false))) else (if bt331.2=30 then (some (bt331.1 == 0)) else (if bt331.2=10 then (some (bt331.1 == 0)) else (some false)))))=some r:=by rw [if_neg (show ¬ (false=true) by decide)] at H;exact H
 clear H
 have H:=H1
 clear H1
 replace H:=Option.bind_eq_some_iff.mp H
 obtain ⟨⟨t331,t332⟩,A520,H⟩:=H
 replace H:(if t332=0 then ((deci_Money.f kj31 t331).bind fun t333=>(if t333.toList=a2.toList then (some true) else (some false))) else (if t332=30 then (some (t331 == 0)) else (if t332=10 then (some (t331 == 0)) else (some false))))=some r:=H
 have A52:=aK_ A520
 clear A520
 by_cases c53:t332=0
 rotate_left
 ·rw [if_neg c53] at H
  have c53b0:(t332 == 0)=false:=beq_eq_false_iff_ne.mpr c53
  have c53b1:(t332 != 0)=true:=bne_iff_ne.mpr c53
  by_cases c60:t332=30
  ·rw [if_pos c60] at H
   have c60b0:(t332 == 30)=true:=beq_iff_eq.mpr c60
   have c60b1:(t332 != 30)=false:=bne_eq_false_iff_eq.mpr c60
   clear c60
   obtain rfl:=Option.some.inj H
   go_wp2_with (first|((with_reducible refine zAL (f:=12) rfl ?_);refine goesL_ (some 73) rfl rfl Tryd.func12 (by kernel_rfl) rfl #[.string a2] rfl aM_ ?_;(with_reducible refine (deci_Coins.calls a2 t331 t332 _ ?side1 A52.out).mono ?_);(case side1=>(first|(with_reducible exact hG)|((repeat (with_reducible first|exact hG|apply GW.drewN|apply GW.drew|apply GW.alloc));done)|exact GW.below hG (aJ_ HB.out GE317.out GE323.out)));rintro e w61 ⟨rfl,hb⟩;refine ⟨_,rfl,?_⟩;have n0_:=aK_ (zAC (g:=gb317) (o:=.cells #[.int .i64 a0_0,.int .u64 a0_1] 27 (0,0)) (aB_ BK317.out) hb);have n1_:=aK_ (zAC (g:=gb323) (o:=.cells #[.int .i64 t327,.int .u64 t328] 27 (0,0)) (aB_ BK323.out) hb);have n2_:=aK_ (zAD (aJ_ HB.out GE317.out GE323.out) hb);clear BK317;clear BK323;clear HB;have BK317:=n0_;have BK323:=n1_;have HB:=n2_;clear n0_ n1_ n2_;(try clear hb);(try clear hb2);(try clear hk);(try clear hi)))
   go_ret
   exact ⟨by first|rfl|(simp [zAK,zAJ] <;> rfl)|(simp [*,zAK,zAJ] <;> rfl),aJ_ HB.out GE317.out GE323.out⟩
  rw [if_neg c60] at H
  have c60b0:(t332 == 30)=false:=beq_eq_false_iff_ne.mpr c60
  have c60b1:(t332 != 30)=true:=bne_iff_ne.mpr c60
  by_cases c62:t332=10
  rotate_left
  ·rw [if_neg c62] at H
   have c62b0:(t332 == 10)=false:=beq_eq_false_iff_ne.mpr c62
   have c62b1:(t332 != 10)=true:=bne_iff_ne.mpr c62
   obtain rfl:=Option.some.inj H
   go_wp2_with (first|((with_reducible refine zAL (f:=12) rfl ?_);refine goesL_ (some 73) rfl rfl Tryd.func12 (by kernel_rfl) rfl #[.string a2] rfl aM_ ?_;(with_reducible refine (deci_Coins.calls a2 t331 t332 _ ?side1 A52.out).mono ?_);(case side1=>(first|(with_reducible exact hG)|((repeat (with_reducible first|exact hG|apply GW.drewN|apply GW.drew|apply GW.alloc));done)|exact GW.below hG (aJ_ HB.out GE317.out GE323.out)));rintro e w64 ⟨rfl,hb⟩;refine ⟨_,rfl,?_⟩;have n0_:=aK_ (zAC (g:=gb317) (o:=.cells #[.int .i64 a0_0,.int .u64 a0_1] 27 (0,0)) (aB_ BK317.out) hb);have n1_:=aK_ (zAC (g:=gb323) (o:=.cells #[.int .i64 t327,.int .u64 t328] 27 (0,0)) (aB_ BK323.out) hb);have n2_:=aK_ (zAD (aJ_ HB.out GE317.out GE323.out) hb);clear BK317;clear BK323;clear HB;have BK317:=n0_;have BK323:=n1_;have HB:=n2_;clear n0_ n1_ n2_;(try clear hb);(try clear hb2);(try clear hk);(try clear hi)))
   go_ret
   exact ⟨by first|rfl|(simp [zAK,zAJ] <;> rfl)|(simp [*,zAK,zAJ] <;> rfl),aJ_ HB.out GE317.out GE323.out⟩
  rw [if_pos c62] at H
  have c62b0:(t332 == 10)=true:=beq_iff_eq.mpr c62
  have c62b1:(t332 != 10)=false:=bne_eq_false_iff_eq.mpr c62
  clear c62
  obtain rfl:=Option.some.inj H
  go_wp2_with (first|((with_reducible refine zAL (f:=12) rfl ?_);refine goesL_ (some 73) rfl rfl Tryd.func12 (by kernel_rfl) rfl #[.string a2] rfl aM_ ?_;(with_reducible refine (deci_Coins.calls a2 t331 t332 _ ?side1 A52.out).mono ?_);(case side1=>(first|(with_reducible exact hG)|((repeat (with_reducible first|exact hG|apply GW.drewN|apply GW.drew|apply GW.alloc));done)|exact GW.below hG (aJ_ HB.out GE317.out GE323.out)));rintro e w63 ⟨rfl,hb⟩;refine ⟨_,rfl,?_⟩;have n0_:=aK_ (zAC (g:=gb317) (o:=.cells #[.int .i64 a0_0,.int .u64 a0_1] 27 (0,0)) (aB_ BK317.out) hb);have n1_:=aK_ (zAC (g:=gb323) (o:=.cells #[.int .i64 t327,.int .u64 t328] 27 (0,0)) (aB_ BK323.out) hb);have n2_:=aK_ (zAD (aJ_ HB.out GE317.out GE323.out) hb);clear BK317;clear BK323;clear HB;have BK317:=n0_;have BK323:=n1_;have HB:=n2_;clear n0_ n1_ n2_;(try clear hb);(try clear hb2);(try clear hk);(try clear hi)))
  go_ret
  exact ⟨by first|rfl|(simp [zAK,zAJ] <;> rfl)|(simp [*,zAK,zAJ] <;> rfl),aJ_ HB.out GE317.out GE323.out⟩
 rw [if_pos c53] at H
 have c53b0:(t332 == 0)=true:=beq_iff_eq.mpr c53
 have c53b1:(t332 != 0)=false:=bne_eq_false_iff_eq.mpr c53
 clear c53
 replace H:=Option.bind_eq_some_iff.mp H
 obtain ⟨t333,A540,H⟩:=H
 replace H:(if t333.toList=a2.toList then (some true) else (some false))=some r:=H
 have A54:=aK_ A540
 clear A540
 by_cases c55:t333.toList=a2.toList
 rotate_left
 ·rw [if_neg c55] at H
  have c55b0:(t333.toList == a2.toList)=false:=beq_eq_false_iff_ne.mpr c55
  have c55b1:(t333.toList != a2.toList)=true:=bne_iff_ne.mpr c55
  obtain rfl:=Option.some.inj H
  go_wp2_with (first|((with_reducible refine zAL (f:=12) rfl ?_);refine goesL_ (some 73) rfl rfl Tryd.func12 (by kernel_rfl) rfl #[.string a2] rfl aM_ ?_;(with_reducible refine (deci_Coins.calls a2 t331 t332 _ ?side1 A52.out).mono ?_);(case side1=>(first|(with_reducible exact hG)|((repeat (with_reducible first|exact hG|apply GW.drewN|apply GW.drew|apply GW.alloc));done)|exact GW.below hG (aJ_ HB.out GE317.out GE323.out)));rintro e w58 ⟨rfl,hb⟩;refine ⟨_,rfl,?_⟩;have n0_:=aK_ (zAC (g:=gb317) (o:=.cells #[.int .i64 a0_0,.int .u64 a0_1] 27 (0,0)) (aB_ BK317.out) hb);have n1_:=aK_ (zAC (g:=gb323) (o:=.cells #[.int .i64 t327,.int .u64 t328] 27 (0,0)) (aB_ BK323.out) hb);have n2_:=aK_ (zAD (aJ_ HB.out GE317.out GE323.out) hb);clear BK317;clear BK323;clear HB;have BK317:=n0_;have BK323:=n1_;have HB:=n2_;clear n0_ n1_ n2_;(try clear hb);(try clear hb2);(try clear hk);(try clear hi))|(go_at_call 13;(with_reducible refine (deci_Money.calls kj31 t331 t333 _ ?side1 A54.out).mono ?_);(case side1=>(first|(with_reducible exact hG)|((repeat (with_reducible first|exact hG|apply GW.drewN|apply GW.drew|apply GW.alloc));done)|exact GW.below hG (aJ_ HB.out GE317.out GE323.out)));rintro e w59 ⟨rfl,hb⟩;have n0_:=aK_ (zAC (g:=gb317) (o:=.cells #[.int .i64 a0_0,.int .u64 a0_1] 27 (0,0)) (aB_ BK317.out) hb);have n1_:=aK_ (zAC (g:=gb323) (o:=.cells #[.int .i64 t327,.int .u64 t328] 27 (0,0)) (aB_ BK323.out) hb);have n2_:=aK_ (zAD (aJ_ HB.out GE317.out GE323.out) hb);clear BK317;clear BK323;clear HB;have BK317:=n0_;have BK323:=n1_;have HB:=n2_;clear n0_ n1_ n2_;(try clear hb);(try clear hb2);(try clear hk);(try clear hi)))
  go_ret
  exact ⟨by first|rfl|(simp [zAK,zAJ] <;> rfl)|(simp [*,zAK,zAJ] <;> rfl),aJ_ HB.out GE317.out GE323.out⟩
 rw [if_pos c55] at H
 have c55b0:(t333.toList == a2.toList)=true:=beq_iff_eq.mpr c55
 have c55b1:(t333.toList != a2.toList)=false:=bne_eq_false_iff_eq.mpr c55
 clear c55
 obtain rfl:=Option.some.inj H
 go_wp2_with (first|((with_reducible refine zAL (f:=12) rfl ?_);refine goesL_ (some 73) rfl rfl Tryd.func12 (by kernel_rfl) rfl #[.string a2] rfl aM_ ?_;(with_reducible refine (deci_Coins.calls a2 t331 t332 _ ?side1 A52.out).mono ?_);(case side1=>(first|(with_reducible exact hG)|((repeat (with_reducible first|exact hG|apply GW.drewN|apply GW.drew|apply GW.alloc));done)|exact GW.below hG (aJ_ HB.out GE317.out GE323.out)));rintro e w56 ⟨rfl,hb⟩;refine ⟨_,rfl,?_⟩;have n0_:=aK_ (zAC (g:=gb317) (o:=.cells #[.int .i64 a0_0,.int .u64 a0_1] 27 (0,0)) (aB_ BK317.out) hb);have n1_:=aK_ (zAC (g:=gb323) (o:=.cells #[.int .i64 t327,.int .u64 t328] 27 (0,0)) (aB_ BK323.out) hb);have n2_:=aK_ (zAD (aJ_ HB.out GE317.out GE323.out) hb);clear BK317;clear BK323;clear HB;have BK317:=n0_;have BK323:=n1_;have HB:=n2_;clear n0_ n1_ n2_;(try clear hb);(try clear hb2);(try clear hk);(try clear hi))|(go_at_call 13;(with_reducible refine (deci_Money.calls kj31 t331 t333 _ ?side1 A54.out).mono ?_);(case side1=>(first|(with_reducible exact hG)|((repeat (with_reducible first|exact hG|apply GW.drewN|apply GW.drew|apply GW.alloc));done)|exact GW.below hG (aJ_ HB.out GE317.out GE323.out)));rintro e w57 ⟨rfl,hb⟩;have n0_:=aK_ (zAC (g:=gb317) (o:=.cells #[.int .i64 a0_0,.int .u64 a0_1] 27 (0,0)) (aB_ BK317.out) hb);have n1_:=aK_ (zAC (g:=gb323) (o:=.cells #[.int .i64 t327,.int .u64 t328] 27 (0,0)) (aB_ BK323.out) hb);have n2_:=aK_ (zAD (aJ_ HB.out GE317.out GE323.out) hb);clear BK317;clear BK323;clear HB;have BK317:=n0_;have BK323:=n1_;have HB:=n2_;clear n0_ n1_ n2_;(try clear hb);(try clear hb2);(try clear hk);(try clear hi)))
 go_ret
 exact ⟨by first|rfl|(simp [zAK,zAJ] <;> rfl)|(simp [*,zAK,zAJ] <;> rfl),aJ_ HB.out GE317.out GE323.out⟩
end Go.Proofs.YtkikekiokclmdaaDoor.S
