/- What the proof needs, part 13 of 18. DeciMoney answers true for every list of numbers and every list of strings; the input reads as it did. -/
import Derived.Test.YtkikekiokclmdaaGreatDoorBDeciMoney5
import Derived.Test.YtkikekiokclmdaaGreatDoorBDeciMoney10
import Derived.Test.YtkikekiokclmdaaGreatDoorBDeciMoney8
import Derived.Test.YtkikekiokclmdaaGreatDoorBDeciMoney9
import Derived.Test.YtkikekiokclmdaaGreatDoorBDeciMoney12
import Derived.Test.YtkikekiokclmdaaGreatDoorBDeciMoney6
import Derived.Test.YtkikekiokclmdaaGreatDoorBDeciMoney11
set_option linter.unusedVariables false
set_option linter.unusedSimpArgs false
namespace Go.Proofs.YtkikekiokclmdaaGreatDoor.S
open Go.RowKit Go.Proofs.YtkikekiokclmdaaGreatDoorW.PrintWords Go.Proofs.YtkikekiokclmdaaGreatDoorW.PrintLast Go.Proofs.YtkikekiokclmdaaGreatDoorW.PrintMore
attribute [local go_sem] max2_int min2_int max_two min_two max_three min_three max_four min_four
attribute [local go_sem high] eqA32
def zAY.f (k:Nat)  : Option (Bool):=(zAb.f k (⟨#[45,49,53]⟩:ByteArray)).bind fun bt236=>((deci_Coins.f (⟨#[49,50,46,51,48]⟩:ByteArray)).bind fun bt240=>(if bt236.2.2=0 then (if bt240.2=0 then ((wide_Of.f (-15)).bind fun bt242=>(if (bt236.1 == bt242.1 && (bt236.2.1 == bt242.2))=true then (if bt240.1=1230 then ((wide_Of.f (-15)).bind fun bt244=>((deci_Text.f k bt244.1 bt244.2).bind fun t246=>(if t246.toList=([45,49,53]:List UInt8) then ((deci_Money.f k (-5)).bind fun t247=>(some (t247.toList == ([45,48,46,48,53]:List UInt8)))) else (some false)))) else (some false)) else (some false))) else (some false)) else (some false)))
theorem zAY.mono:∀ k,LeO (zAY.f k ) (zAY.f (k+1) ):=by
 intro  k
 unfold zAY.f
 repeat' first
   |(with_reducible exact deci_Money.mono _ _)
   |(with_reducible exact zAb.mono _ _)
   |(with_reducible exact deci_Text.mono _ _ _)
   |(with_reducible exact LeO.refl _)
   |(with_reducible exact LeO.none _)
   |(with_reducible refine LeO.ite ?_ ?_)
   |(with_reducible refine LeO.bind ?_ (fun _=>?_))
   |exact deci_Money.mono _ _
   |exact zAb.mono _ _
   |exact deci_Text.mono _ _ _
   |exact LeO.none _
   |refine LeO.ite ?_ ?_
   |refine LeO.bind ?_ (fun _=>?_)
def zAY.T3:Bool × List (List Nat × List Nat):=(true,[([],[]),([0],[0]),([1],[1]),([2],[2]),([3,2],[2,3]),([2,4],[2,4]),([5,2],[5]),([6],[6]),([6,6],[6]),([7,8,6],[6,7,8]),([6,9],[6,9]),([10,8],[10]),([11],[11]),([12,11],[11,12]),([11,13],[11,13]),([14,11],[14]),([15,15],[15]),([16,16,15],[15,16]),([17,15],[15,17]),([15,18],[15,18]),([19,17],[19]),([20,20],[20]),([21,20],[20,21]),([20,22],[20,22]),([23,21,0,1,2,3,4,5,6,7,8,9,10,11,12,13,14,15,16,17,18,19,20,21,22,23],[23])])
def zAY.B3:List Nat:=[0,1,3,7,15,31,63,127,127,511,1023,2047,4095,8191,16383,32767,65535,131071,262143,524287,1048575,2097151,4194303,8388607,16777215]
theorem zAY.tab3:rtab .any (opsOf Tryz.f4 3)=zAY.T3:=by kernel_rfl
theorem zAY.bits3:waitsOk zAY.T3.2 zAY.B3=true:=by kernel_rfl
set_option maxHeartbeats 8000000 in
set_option maxRecDepth 100000 in
theorem zAY.calls (k:Nat)  (r:Bool) (w:World) (hG:GW w) (h:zAY.f k  = some r) :
  Calls Tryz.prog 4 #[] w fun e w'=>e = .returned (.bool r)∧Below w.heap.size w w':=by
 have hu32:=Tryz.underlying32
 have HB:=aK_ (Below.refl w.heap.size w)
 have H:((zAb.f k (⟨#[45,49,53]⟩:ByteArray)).bind fun bt236=>((deci_Coins.f (⟨#[49,50,46,51,48]⟩:ByteArray)).bind fun bt240=>(if bt236.2.2=0 then (if bt240.2=0 then ((wide_Of.f (-15)).bind fun bt242=>(if (bt236.1 == bt242.1 && (bt236.2.1 == bt242.2))=true then (if bt240.1=1230 then ((wide_Of.f (-15)).bind fun bt244=>((deci_Text.f k bt244.1 bt244.2).bind fun t246=>(if t246.toList=([45,49,53]:List UInt8) then ((deci_Money.f k (-5)).bind fun t247=>(some (t247.toList == ([45,48,46,48,53]:List UInt8)))) else (some false)))) else (some false)) else (some false))) else (some false)) else (some false))))=some r:=h
 clear h
 replace H:=Option.bind_eq_some_iff.mp H
 obtain ⟨⟨t236,t237,t238⟩,A10,H⟩:=H
 replace H:((deci_Coins.f (⟨#[49,50,46,51,48]⟩:ByteArray)).bind fun bt240=>(if t238=0 then (if bt240.2=0 then ((wide_Of.f (-15)).bind fun bt242=>(if (t236 == bt242.1 && (t237 == bt242.2))=true then (if bt240.1=1230 then ((wide_Of.f (-15)).bind fun bt244=>((deci_Text.f k bt244.1 bt244.2).bind fun t246=>(if t246.toList=([45,49,53]:List UInt8) then ((deci_Money.f k (-5)).bind fun t247=>(some (t247.toList == ([45,48,46,48,53]:List UInt8)))) else (some false)))) else (some false)) else (some false))) else (some false)) else (some false)))=some r:=H
 have A1:=aK_ A10
 clear A10
 replace H:=Option.bind_eq_some_iff.mp H
 obtain ⟨⟨t240,t241⟩,A20,H⟩:=H
 replace H:(if t238=0 then (if t241=0 then ((wide_Of.f (-15)).bind fun bt242=>(if (t236 == bt242.1 && (t237 == bt242.2))=true then (if t240=1230 then ((wide_Of.f (-15)).bind fun bt244=>((deci_Text.f k bt244.1 bt244.2).bind fun t246=>(if t246.toList=([45,49,53]:List UInt8) then ((deci_Money.f k (-5)).bind fun t247=>(some (t247.toList == ([45,48,46,48,53]:List UInt8)))) else (some false)))) else (some false)) else (some false))) else (some false)) else (some false))=some r:=H
 have A2:=aK_ A20
 clear A20
 by_cases c3:t238=0
 rotate_left
 ·rw [if_neg c3] at H
  have c3b0:(t238 == 0)=false:=beq_eq_false_iff_ne.mpr c3
  have c3b1:(t238 != 0)=true:=bne_iff_ne.mpr c3
  obtain rfl:=Option.some.inj H
  go_enter Tryz.func4,Tryz.ntmps4
  try go_wp2_with (first|((with_reducible refine zAM (f:=9) rfl ?_);refine goesL_ (some 6) rfl rfl Tryz.func9 (by kernel_rfl) rfl #[.string (⟨#[45,49,53]⟩:ByteArray)] rfl aM_ ?_;(with_reducible refine (zAb.calls k (⟨#[45,49,53]⟩:ByteArray) t236 t237 t238 _ A1.out).mono ?_);rintro e w46 ⟨rfl,hb⟩;refine ⟨_,rfl,?_⟩;have n0_:=aK_ (zAE (aH_ HB.out) hb);clear HB;have HB:=n0_;clear n0_;(try clear hb);(try clear hb2);(try clear hk);(try clear hi))|((with_reducible refine zAc (N:=1) rfl ?_);refine zAX ?hg (N:=1) ?hd (cs:=#[.int .i64 0,.int .u64 0]) (t:=32) ?hr ?_;(case hd=>rfl);(case hg=>rfl);(case hr=>first|(go_simp;done)|(go_simp;rfl));intro gb239 hg w47 hbox hb;have n0_:=aK_ (zAE (aH_ HB.out) hb);have n1_:=aK_ (hbox);have n2_:=aK_ ((by rw [hg];exact (zAF (aH_ HB.out)):w.heap.size≤gb239));have n3_:=aK_ ((by rw [hg];exact (zAF (aH_ HB.out)):w.heap.size≤gb239));clear HB;have HB:=n0_;have BK239:=n1_;have GW239:=n2_;have GE239:=n3_;clear n0_ n1_ n2_ n3_;clear hb hbox hg;have hcz48_0:w47.cell? ⟨gb239,0,none⟩=some (.int .i64 0):=(zAB BK239.out 0).trans rfl;have hcz48_1:w47.cell? ⟨gb239,1,none⟩=some (.int .u64 0):=(zAB BK239.out 1).trans rfl;have hfz48_0:=zAA BK239.out 0;have hfz48_1:=zAA BK239.out 1)|((with_reducible refine zAM (f:=7) rfl ?_);refine goesL_ (some 10) rfl rfl Tryz.func7 (by kernel_rfl) rfl #[.string (⟨#[49,50,46,51,48]⟩:ByteArray)] rfl aM_ ?_;(with_reducible refine (deci_Coins.calls (⟨#[49,50,46,51,48]⟩:ByteArray) t240 t241 _ ?side1 A2.out).mono ?_);(case side1=>(first|(with_reducible exact hG)|((repeat (with_reducible first|exact hG|apply GW.drewN|apply GW.drew|apply GW.alloc));done)|exact GW.below hG (aI_ HB.out GE239.out)));rintro e w49 ⟨rfl,hb⟩;refine ⟨_,rfl,?_⟩;have n0_:=aK_ (zAC (g:=gb239) (o:=.cells #[.int .i64 t236,.int .u64 t237] 32 (0,0)) (by refine aB_ ?_;refine zAW (cs:=#[.int .i64 t236,.int .u64 0]) ?_ 1 _ rfl;refine aB_ ?_;refine zAW (cs:=#[.int .i64 0,.int .u64 0]) ?_ 0 _ rfl;refine aB_ ?_;exact BK239.out) hb);have n1_:=aK_ (zAE (aI_ HB.out GE239.out) hb);clear BK239;clear HB;have BK239:=n0_;have HB:=n1_;clear n0_ n1_;(try clear hb);(try clear hb2);(try clear hk);(try clear hi)))
  have n0_:=aK_ (blk_drew BK239.out)
  have n1_:=aK_ (below_drew1 HB.out)
  clear BK239
  clear HB
  have BK239:=n0_
  have HB:=n1_
  clear n0_ n1_
  refine start_ (n:=25) (S:=fun w'=>True) (ds:=[]) #[false,false,false,false,false,false,false,false,false,false,false,false,false,false,false,false,false,false,false,false,false,false,false,false,false] (by kernel_rfl) rfl rfl trivial (fun hHeld=>?_);refine with_tabW zAY.tab3 zAY.bits3 (fun HT_ HW_=>?_)
  generalize w49.drew=w50 at BK239 HB hHeld ⊢
  refine zAa (i:=0) (N:=some 13) (v:=?_) (a':=?_) #[true,false,false,false,false,false,false,false,false,false,false,false,false,false,false,false,false,false,false,false,false,false,false,false,false] rfl rfl (zAN HT_.out (by kernel_rfl)) (fun _ _ _ h=>h) (Or.inl ⟨by rfl,?_⟩) ?_ ?_
  rotate_left
  ·intro w'
   go_simp
   with_reducible rfl
  rotate_left
  ·simp only [Act.put,List.setIfInBounds_toArray,List.set_cons_zero,List.set_cons_succ,zAO,zAR]
   rfl
  refine zAa (i:=1) (N:=some 14) (v:=?_) (a':=?_) #[true,true,false,false,false,false,false,false,false,false,false,false,false,false,false,false,false,false,false,false,false,false,false,false,false] rfl rfl (zAN HT_.out (by kernel_rfl)) (fun _ _ _ h=>h) (Or.inl ⟨by rfl,?_⟩) ?_ ?_
  rotate_left
  ·intro w'
   go_simp
   with_reducible rfl
  rotate_left
  ·simp only [Act.put,List.setIfInBounds_toArray,List.set_cons_zero,List.set_cons_succ,zAO,zAR]
   rfl
  refine zAa (i:=2) (N:=some 15) (v:=?_) (a':=?_) #[true,true,true,false,false,false,false,false,false,false,false,false,false,false,false,false,false,false,false,false,false,false,false,false,false] rfl rfl (zAN HT_.out (by kernel_rfl)) (fun _ _ _ h=>h) (Or.inl ⟨by rfl,?_⟩) ?_ ?_
  rotate_left
  ·intro w'
   go_simp
   with_reducible rfl
  rotate_left
  ·simp only [Act.put,List.setIfInBounds_toArray,List.set_cons_zero,List.set_cons_succ,zAO,zAR]
   rfl
  refine zAa (i:=3) (N:=some 16) (v:=undef) (a':=?_) #[true,true,true,true,false,false,false,false,false,false,false,false,false,false,false,false,false,false,false,false,false,false,false,false,false] rfl rfl (zAN HT_.out (by kernel_rfl)) (fun _ _ _ h=>h) (Or.inr ⟨by rfl,rfl⟩) ?_ ?_
  rotate_left
  ·simp only [Act.put,List.setIfInBounds_toArray,List.set_cons_zero,List.set_cons_succ,zAO,zAR]
   rfl
  refine zAa (i:=4) (N:=some 17) (v:=undef) (a':=?_) #[true,true,true,true,true,false,false,false,false,false,false,false,false,false,false,false,false,false,false,false,false,false,false,false,false] rfl rfl (zAN HT_.out (by kernel_rfl)) (fun _ _ _ h=>h) (Or.inr ⟨by rfl,rfl⟩) ?_ ?_
  rotate_left
  ·simp only [Act.put,List.setIfInBounds_toArray,List.set_cons_zero,List.set_cons_succ,zAO,zAR]
   rfl
  refine zAa (i:=5) (N:=some 18) (v:=?_) (a':=?_) #[true,true,true,true,true,true,false,false,false,false,false,false,false,false,false,false,false,false,false,false,false,false,false,false,false] rfl rfl (zAN HT_.out (by kernel_rfl)) (fun _ _ _ h=>h) (Or.inl ⟨by rfl,?_⟩) ?_ ?_
  rotate_left
  ·intro w'
   go_simp
   with_reducible rfl
  rotate_left
  ·simp only [Act.put,List.setIfInBounds_toArray,List.set_cons_zero,List.set_cons_succ,zAO,zAR]
   rfl
  refine zAa (i:=6) (N:=some 19) (v:=?_) (a':=?_) #[true,true,true,true,true,true,true,false,false,false,false,false,false,false,false,false,false,false,false,false,false,false,false,false,false] rfl rfl (zAN HT_.out (by kernel_rfl)) (fun _ _ _ h=>h) (Or.inl ⟨by rfl,?_⟩) ?_ ?_
  rotate_left
  ·intro w'
   go_simp
   with_reducible rfl
  rotate_left
  ·simp only [Act.put,List.setIfInBounds_toArray,List.set_cons_zero,List.set_cons_succ,zAO,zAR]
   rfl
  refine zAa (i:=7) (N:=some 20) (v:=undef) (a':=?_) #[true,true,true,true,true,true,true,true,false,false,false,false,false,false,false,false,false,false,false,false,false,false,false,false,false] rfl rfl (zAN HT_.out (by kernel_rfl)) (fun _ _ _ h=>h) (Or.inr ⟨by rfl,rfl⟩) ?_ ?_
  rotate_left
  ·simp only [Act.put,List.setIfInBounds_toArray,List.set_cons_zero,List.set_cons_succ,zAO,zAR]
   rfl
  refine zAa (i:=8) (N:=some 21) (v:=undef) (a':=?_) #[true,true,true,true,true,true,true,true,true,false,false,false,false,false,false,false,false,false,false,false,false,false,false,false,false] rfl rfl (zAN HT_.out (by kernel_rfl)) (fun _ _ _ h=>h) (Or.inr ⟨by rfl,rfl⟩) ?_ ?_
  rotate_left
  ·simp only [Act.put,List.setIfInBounds_toArray,List.set_cons_zero,List.set_cons_succ,zAO,zAR]
   rfl
  refine zAa (i:=9) (N:=some 22) (v:=undef) (a':=?_) #[true,true,true,true,true,true,true,true,true,true,false,false,false,false,false,false,false,false,false,false,false,false,false,false,false] rfl rfl (zAN HT_.out (by kernel_rfl)) (fun _ _ _ h=>h) (Or.inr ⟨by rfl,rfl⟩) ?_ ?_
  rotate_left
  ·simp only [Act.put,List.setIfInBounds_toArray,List.set_cons_zero,List.set_cons_succ,zAO,zAR]
   rfl
  refine zAa (i:=10) (N:=some 23) (v:=?_) (a':=?_) #[true,true,true,true,true,true,true,true,true,true,true,false,false,false,false,false,false,false,false,false,false,false,false,false,false] rfl rfl (zAN HT_.out (by kernel_rfl)) (fun _ _ _ h=>h) (Or.inl ⟨by rfl,?_⟩) ?_ ?_
  rotate_left
  ·intro w'
   go_simp
   with_reducible rfl
  rotate_left
  ·simp only [Act.put,List.setIfInBounds_toArray,List.set_cons_zero,List.set_cons_succ,zAO,zAR]
   rfl
  refine zAa (i:=11) (N:=some 24) (v:=?_) (a':=?_) #[true,true,true,true,true,true,true,true,true,true,true,true,false,false,false,false,false,false,false,false,false,false,false,false,false] rfl rfl (zAN HT_.out (by kernel_rfl)) (fun _ _ _ h=>h) (Or.inl ⟨by rfl,?_⟩) ?_ ?_
  rotate_left
  ·intro w'
   go_simp
   with_reducible rfl
  rotate_left
  ·simp only [Act.put,List.setIfInBounds_toArray,List.set_cons_zero,List.set_cons_succ,zAO,zAR]
   rfl
  refine zAa (i:=12) (N:=some 25) (v:=undef) (a':=?_) #[true,true,true,true,true,true,true,true,true,true,true,true,true,false,false,false,false,false,false,false,false,false,false,false,false] rfl rfl (zAN HT_.out (by kernel_rfl)) (fun _ _ _ h=>h) (Or.inr ⟨by rfl,rfl⟩) ?_ ?_
  rotate_left
  ·simp only [Act.put,List.setIfInBounds_toArray,List.set_cons_zero,List.set_cons_succ,zAO,zAR]
   rfl
  refine zAa (i:=13) (N:=some 26) (v:=undef) (a':=?_) #[true,true,true,true,true,true,true,true,true,true,true,true,true,true,false,false,false,false,false,false,false,false,false,false,false] rfl rfl (zAN HT_.out (by kernel_rfl)) (fun _ _ _ h=>h) (Or.inr ⟨by rfl,rfl⟩) ?_ ?_
  rotate_left
  ·simp only [Act.put,List.setIfInBounds_toArray,List.set_cons_zero,List.set_cons_succ,zAO,zAR]
   rfl
  refine zAa (i:=14) (N:=some 27) (v:=?_) (a':=?_) #[true,true,true,true,true,true,true,true,true,true,true,true,true,true,true,false,false,false,false,false,false,false,false,false,false] rfl rfl (zAN HT_.out (by kernel_rfl)) (fun _ _ _ h=>h) (Or.inl ⟨by rfl,?_⟩) ?_ ?_
  rotate_left
  ·intro w'
   go_simp
   with_reducible rfl
  rotate_left
  ·simp only [Act.put,List.setIfInBounds_toArray,List.set_cons_zero,List.set_cons_succ,zAO,zAR]
   rfl
  refine zAa (i:=15) (N:=some 28) (v:=?_) (a':=?_) #[true,true,true,true,true,true,true,true,true,true,true,true,true,true,true,true,false,false,false,false,false,false,false,false,false] rfl rfl (zAN HT_.out (by kernel_rfl)) (fun _ _ _ h=>h) (Or.inl ⟨by rfl,?_⟩) ?_ ?_
  rotate_left
  ·intro w'
   go_simp
   with_reducible rfl
  rotate_left
  ·simp only [Act.put,List.setIfInBounds_toArray,List.set_cons_zero,List.set_cons_succ,zAO,zAR]
   rfl
  refine zAa (i:=16) (N:=some 29) (v:=undef) (a':=?_) #[true,true,true,true,true,true,true,true,true,true,true,true,true,true,true,true,true,false,false,false,false,false,false,false,false] rfl rfl (zAN HT_.out (by kernel_rfl)) (fun _ _ _ h=>h) (Or.inr ⟨by rfl,rfl⟩) ?_ ?_
  rotate_left
  ·simp only [Act.put,List.setIfInBounds_toArray,List.set_cons_zero,List.set_cons_succ,zAO,zAR]
   rfl
  refine zAa (i:=17) (N:=some 30) (v:=undef) (a':=?_) #[true,true,true,true,true,true,true,true,true,true,true,true,true,true,true,true,true,true,false,false,false,false,false,false,false] rfl rfl (zAN HT_.out (by kernel_rfl)) (fun _ _ _ h=>h) (Or.inr ⟨by rfl,rfl⟩) ?_ ?_
  rotate_left
  ·simp only [Act.put,List.setIfInBounds_toArray,List.set_cons_zero,List.set_cons_succ,zAO,zAR]
   rfl
  refine zAa (i:=18) (N:=some 31) (v:=undef) (a':=?_) #[true,true,true,true,true,true,true,true,true,true,true,true,true,true,true,true,true,true,true,false,false,false,false,false,false] rfl rfl (zAN HT_.out (by kernel_rfl)) (fun _ _ _ h=>h) (Or.inr ⟨by rfl,rfl⟩) ?_ ?_
  rotate_left
  ·simp only [Act.put,List.setIfInBounds_toArray,List.set_cons_zero,List.set_cons_succ,zAO,zAR]
   rfl
  refine zAa (i:=19) (N:=some 32) (v:=?_) (a':=?_) #[true,true,true,true,true,true,true,true,true,true,true,true,true,true,true,true,true,true,true,true,false,false,false,false,false] rfl rfl (zAN HT_.out (by kernel_rfl)) (fun _ _ _ h=>h) (Or.inl ⟨by rfl,?_⟩) ?_ ?_
  rotate_left
  ·intro w'
   go_simp
   with_reducible rfl
  rotate_left
  ·simp only [Act.put,List.setIfInBounds_toArray,List.set_cons_zero,List.set_cons_succ,zAO,zAR]
   rfl
  refine zAa (i:=20) (N:=some 33) (v:=?_) (a':=?_) #[true,true,true,true,true,true,true,true,true,true,true,true,true,true,true,true,true,true,true,true,true,false,false,false,false] rfl rfl (zAN HT_.out (by kernel_rfl)) (fun _ _ _ h=>h) (Or.inl ⟨by rfl,?_⟩) ?_ ?_
  rotate_left
  ·intro w'
   go_simp
   with_reducible rfl
  rotate_left
  ·simp only [Act.put,List.setIfInBounds_toArray,List.set_cons_zero,List.set_cons_succ,zAO,zAR]
   rfl
  refine zAa (i:=21) (N:=some 34) (v:=undef) (a':=?_) #[true,true,true,true,true,true,true,true,true,true,true,true,true,true,true,true,true,true,true,true,true,true,false,false,false] rfl rfl (zAN HT_.out (by kernel_rfl)) (fun _ _ _ h=>h) (Or.inr ⟨by rfl,rfl⟩) ?_ ?_
  rotate_left
  ·simp only [Act.put,List.setIfInBounds_toArray,List.set_cons_zero,List.set_cons_succ,zAO,zAR]
   rfl
  refine zAa (i:=22) (N:=some 35) (v:=undef) (a':=?_) #[true,true,true,true,true,true,true,true,true,true,true,true,true,true,true,true,true,true,true,true,true,true,true,false,false] rfl rfl (zAN HT_.out (by kernel_rfl)) (fun _ _ _ h=>h) (Or.inr ⟨by rfl,rfl⟩) ?_ ?_
  rotate_left
  ·simp only [Act.put,List.setIfInBounds_toArray,List.set_cons_zero,List.set_cons_succ,zAO,zAR]
   rfl
  refine zAa (i:=23) (N:=some 36) (v:=?_) (a':=?_) #[true,true,true,true,true,true,true,true,true,true,true,true,true,true,true,true,true,true,true,true,true,true,true,true,false] rfl rfl (zAN HT_.out (by kernel_rfl)) (fun _ _ _ h=>h) (Or.inl ⟨by rfl,?_⟩) ?_ ?_
  rotate_left
  ·intro w'
   go_simp
   with_reducible rfl
  rotate_left
  ·simp only [Act.put,List.setIfInBounds_toArray,List.set_cons_zero,List.set_cons_succ,zAO,zAR]
   rfl
  refine zAa (i:=24) (N:=some 0) (v:=?_) (a':=?_) #[true,true,true,true,true,true,true,true,true,true,true,true,true,true,true,true,true,true,true,true,true,true,true,true,true] rfl rfl (zAN HT_.out (by kernel_rfl)) (fun _ _ _ h=>h) (Or.inl ⟨by rfl,?_⟩) ?_ ?_
  rotate_left
  ·intro w'
   go_simp
   with_reducible rfl
  rotate_left
  ·simp only [Act.put,List.setIfInBounds_toArray,List.set_cons_zero,List.set_cons_succ,zAO,zAR]
   rfl
  refine done_ (done_of HT_.out (by kernel_rfl)) ?_
  try go_wp2
  go_ret
  exact ⟨by first|rfl|(simp [zAP,zAQ] <;> rfl)|(simp [*,zAP,zAQ] <;> rfl),aI_ HB.out GE239.out⟩
 rw [if_pos c3] at H
 have c3b0:(t238 == 0)=true:=beq_iff_eq.mpr c3
 have c3b1:(t238 != 0)=false:=bne_eq_false_iff_eq.mpr c3
 clear c3
 by_cases c4:t241=0
 rotate_left
 ·rw [if_neg c4] at H
  have c4b0:(t241 == 0)=false:=beq_eq_false_iff_ne.mpr c4
  have c4b1:(t241 != 0)=true:=bne_iff_ne.mpr c4
  obtain rfl:=Option.some.inj H
  go_enter Tryz.func4,Tryz.ntmps4
  try go_wp2_with (first|((with_reducible refine zAM (f:=9) rfl ?_);refine goesL_ (some 6) rfl rfl Tryz.func9 (by kernel_rfl) rfl #[.string (⟨#[45,49,53]⟩:ByteArray)] rfl aM_ ?_;(with_reducible refine (zAb.calls k (⟨#[45,49,53]⟩:ByteArray) t236 t237 t238 _ A1.out).mono ?_);rintro e w41 ⟨rfl,hb⟩;refine ⟨_,rfl,?_⟩;have n0_:=aK_ (zAE (aH_ HB.out) hb);clear HB;have HB:=n0_;clear n0_;(try clear hb);(try clear hb2);(try clear hk);(try clear hi))|((with_reducible refine zAc (N:=1) rfl ?_);refine zAX ?hg (N:=1) ?hd (cs:=#[.int .i64 0,.int .u64 0]) (t:=32) ?hr ?_;(case hd=>rfl);(case hg=>rfl);(case hr=>first|(go_simp;done)|(go_simp;rfl));intro gb239 hg w42 hbox hb;have n0_:=aK_ (zAE (aH_ HB.out) hb);have n1_:=aK_ (hbox);have n2_:=aK_ ((by rw [hg];exact (zAF (aH_ HB.out)):w.heap.size≤gb239));have n3_:=aK_ ((by rw [hg];exact (zAF (aH_ HB.out)):w.heap.size≤gb239));clear HB;have HB:=n0_;have BK239:=n1_;have GW239:=n2_;have GE239:=n3_;clear n0_ n1_ n2_ n3_;clear hb hbox hg;have hcz43_0:w42.cell? ⟨gb239,0,none⟩=some (.int .i64 0):=(zAB BK239.out 0).trans rfl;have hcz43_1:w42.cell? ⟨gb239,1,none⟩=some (.int .u64 0):=(zAB BK239.out 1).trans rfl;have hfz43_0:=zAA BK239.out 0;have hfz43_1:=zAA BK239.out 1)|((with_reducible refine zAM (f:=7) rfl ?_);refine goesL_ (some 10) rfl rfl Tryz.func7 (by kernel_rfl) rfl #[.string (⟨#[49,50,46,51,48]⟩:ByteArray)] rfl aM_ ?_;(with_reducible refine (deci_Coins.calls (⟨#[49,50,46,51,48]⟩:ByteArray) t240 t241 _ ?side1 A2.out).mono ?_);(case side1=>(first|(with_reducible exact hG)|((repeat (with_reducible first|exact hG|apply GW.drewN|apply GW.drew|apply GW.alloc));done)|exact GW.below hG (aI_ HB.out GE239.out)));rintro e w44 ⟨rfl,hb⟩;refine ⟨_,rfl,?_⟩;have n0_:=aK_ (zAC (g:=gb239) (o:=.cells #[.int .i64 t236,.int .u64 t237] 32 (0,0)) (by refine aB_ ?_;refine zAW (cs:=#[.int .i64 t236,.int .u64 0]) ?_ 1 _ rfl;refine aB_ ?_;refine zAW (cs:=#[.int .i64 0,.int .u64 0]) ?_ 0 _ rfl;refine aB_ ?_;exact BK239.out) hb);have n1_:=aK_ (zAE (aI_ HB.out GE239.out) hb);clear BK239;clear HB;have BK239:=n0_;have HB:=n1_;clear n0_ n1_;(try clear hb);(try clear hb2);(try clear hk);(try clear hi)))
  have n0_:=aK_ (blk_drew BK239.out)
  have n1_:=aK_ (below_drew1 HB.out)
  clear BK239
  clear HB
  have BK239:=n0_
  have HB:=n1_
  clear n0_ n1_
  refine start_ (n:=25) (S:=fun w'=>True) (ds:=[]) #[false,false,false,false,false,false,false,false,false,false,false,false,false,false,false,false,false,false,false,false,false,false,false,false,false] (by kernel_rfl) rfl rfl trivial (fun hHeld=>?_);refine with_tabW zAY.tab3 zAY.bits3 (fun HT_ HW_=>?_)
  generalize w44.drew=w45 at BK239 HB hHeld ⊢
  refine zAa (i:=0) (N:=some 13) (v:=?_) (a':=?_) #[true,false,false,false,false,false,false,false,false,false,false,false,false,false,false,false,false,false,false,false,false,false,false,false,false] rfl rfl (zAN HT_.out (by kernel_rfl)) (fun _ _ _ h=>h) (Or.inl ⟨by rfl,?_⟩) ?_ ?_
  rotate_left
  ·intro w'
   go_simp
   with_reducible rfl
  rotate_left
  ·simp only [Act.put,List.setIfInBounds_toArray,List.set_cons_zero,List.set_cons_succ,zAO,zAR]
   rfl
  refine zAa (i:=1) (N:=some 14) (v:=?_) (a':=?_) #[true,true,false,false,false,false,false,false,false,false,false,false,false,false,false,false,false,false,false,false,false,false,false,false,false] rfl rfl (zAN HT_.out (by kernel_rfl)) (fun _ _ _ h=>h) (Or.inl ⟨by rfl,?_⟩) ?_ ?_
  rotate_left
  ·intro w'
   go_simp
   with_reducible rfl
  rotate_left
  ·simp only [Act.put,List.setIfInBounds_toArray,List.set_cons_zero,List.set_cons_succ,zAO,zAR]
   rfl
  refine zAa (i:=2) (N:=some 15) (v:=?_) (a':=?_) #[true,true,true,false,false,false,false,false,false,false,false,false,false,false,false,false,false,false,false,false,false,false,false,false,false] rfl rfl (zAN HT_.out (by kernel_rfl)) (fun _ _ _ h=>h) (Or.inl ⟨by rfl,?_⟩) ?_ ?_
  rotate_left
  ·intro w'
   go_simp
   with_reducible rfl
  rotate_left
  ·simp only [Act.put,List.setIfInBounds_toArray,List.set_cons_zero,List.set_cons_succ,zAO,zAR]
   rfl
  refine zAa (i:=3) (N:=some 16) (v:=?_) (a':=?_) #[true,true,true,true,false,false,false,false,false,false,false,false,false,false,false,false,false,false,false,false,false,false,false,false,false] rfl rfl (zAN HT_.out (by kernel_rfl)) (fun _ _ _ h=>h) (Or.inl ⟨by rfl,?_⟩) ?_ ?_
  rotate_left
  ·intro w'
   go_simp
   with_reducible rfl
  rotate_left
  ·simp only [Act.put,List.setIfInBounds_toArray,List.set_cons_zero,List.set_cons_succ,zAO,zAR]
   rfl
  refine zAa (i:=4) (N:=some 17) (v:=?_) (a':=?_) #[true,true,true,true,true,false,false,false,false,false,false,false,false,false,false,false,false,false,false,false,false,false,false,false,false] rfl rfl (zAN HT_.out (by kernel_rfl)) (fun _ _ _ h=>h) (Or.inl ⟨by rfl,?_⟩) ?_ ?_
  rotate_left
  ·intro w'
   go_simp
   with_reducible rfl
  rotate_left
  ·simp only [Act.put,List.setIfInBounds_toArray,List.set_cons_zero,List.set_cons_succ,zAO,zAR]
   rfl
  refine zAa (i:=5) (N:=some 18) (v:=?_) (a':=?_) #[true,true,true,true,true,true,false,false,false,false,false,false,false,false,false,false,false,false,false,false,false,false,false,false,false] rfl rfl (zAN HT_.out (by kernel_rfl)) (fun _ _ _ h=>h) (Or.inl ⟨by rfl,?_⟩) ?_ ?_
  rotate_left
  ·intro w'
   go_simp
   with_reducible rfl
  rotate_left
  ·simp only [Act.put,List.setIfInBounds_toArray,List.set_cons_zero,List.set_cons_succ,zAO,zAR]
   rfl
  refine zAa (i:=6) (N:=some 19) (v:=?_) (a':=?_) #[true,true,true,true,true,true,true,false,false,false,false,false,false,false,false,false,false,false,false,false,false,false,false,false,false] rfl rfl (zAN HT_.out (by kernel_rfl)) (fun _ _ _ h=>h) (Or.inl ⟨by rfl,?_⟩) ?_ ?_
  rotate_left
  ·intro w'
   go_simp
   with_reducible rfl
  rotate_left
  ·simp only [Act.put,List.setIfInBounds_toArray,List.set_cons_zero,List.set_cons_succ,zAO,zAR]
   rfl
  refine zAa (i:=7) (N:=some 20) (v:=undef) (a':=?_) #[true,true,true,true,true,true,true,true,false,false,false,false,false,false,false,false,false,false,false,false,false,false,false,false,false] rfl rfl (zAN HT_.out (by kernel_rfl)) (fun _ _ _ h=>h) (Or.inr ⟨by rfl,rfl⟩) ?_ ?_
  rotate_left
  ·simp only [Act.put,List.setIfInBounds_toArray,List.set_cons_zero,List.set_cons_succ,zAO,zAR]
   rfl
  refine zAa (i:=8) (N:=some 21) (v:=undef) (a':=?_) #[true,true,true,true,true,true,true,true,true,false,false,false,false,false,false,false,false,false,false,false,false,false,false,false,false] rfl rfl (zAN HT_.out (by kernel_rfl)) (fun _ _ _ h=>h) (Or.inr ⟨by rfl,rfl⟩) ?_ ?_
  rotate_left
  ·simp only [Act.put,List.setIfInBounds_toArray,List.set_cons_zero,List.set_cons_succ,zAO,zAR]
   rfl
  refine zAa (i:=9) (N:=some 22) (v:=undef) (a':=?_) #[true,true,true,true,true,true,true,true,true,true,false,false,false,false,false,false,false,false,false,false,false,false,false,false,false] rfl rfl (zAN HT_.out (by kernel_rfl)) (fun _ _ _ h=>h) (Or.inr ⟨by rfl,rfl⟩) ?_ ?_
  rotate_left
  ·simp only [Act.put,List.setIfInBounds_toArray,List.set_cons_zero,List.set_cons_succ,zAO,zAR]
   rfl
  refine zAa (i:=10) (N:=some 23) (v:=?_) (a':=?_) #[true,true,true,true,true,true,true,true,true,true,true,false,false,false,false,false,false,false,false,false,false,false,false,false,false] rfl rfl (zAN HT_.out (by kernel_rfl)) (fun _ _ _ h=>h) (Or.inl ⟨by rfl,?_⟩) ?_ ?_
  rotate_left
  ·intro w'
   go_simp
   with_reducible rfl
  rotate_left
  ·simp only [Act.put,List.setIfInBounds_toArray,List.set_cons_zero,List.set_cons_succ,zAO,zAR]
   rfl
  refine zAa (i:=11) (N:=some 24) (v:=?_) (a':=?_) #[true,true,true,true,true,true,true,true,true,true,true,true,false,false,false,false,false,false,false,false,false,false,false,false,false] rfl rfl (zAN HT_.out (by kernel_rfl)) (fun _ _ _ h=>h) (Or.inl ⟨by rfl,?_⟩) ?_ ?_
  rotate_left
  ·intro w'
   go_simp
   with_reducible rfl
  rotate_left
  ·simp only [Act.put,List.setIfInBounds_toArray,List.set_cons_zero,List.set_cons_succ,zAO,zAR]
   rfl
  refine zAa (i:=12) (N:=some 25) (v:=undef) (a':=?_) #[true,true,true,true,true,true,true,true,true,true,true,true,true,false,false,false,false,false,false,false,false,false,false,false,false] rfl rfl (zAN HT_.out (by kernel_rfl)) (fun _ _ _ h=>h) (Or.inr ⟨by rfl,rfl⟩) ?_ ?_
  rotate_left
  ·simp only [Act.put,List.setIfInBounds_toArray,List.set_cons_zero,List.set_cons_succ,zAO,zAR]
   rfl
  refine zAa (i:=13) (N:=some 26) (v:=undef) (a':=?_) #[true,true,true,true,true,true,true,true,true,true,true,true,true,true,false,false,false,false,false,false,false,false,false,false,false] rfl rfl (zAN HT_.out (by kernel_rfl)) (fun _ _ _ h=>h) (Or.inr ⟨by rfl,rfl⟩) ?_ ?_
  rotate_left
  ·simp only [Act.put,List.setIfInBounds_toArray,List.set_cons_zero,List.set_cons_succ,zAO,zAR]
   rfl
  refine zAa (i:=14) (N:=some 27) (v:=?_) (a':=?_) #[true,true,true,true,true,true,true,true,true,true,true,true,true,true,true,false,false,false,false,false,false,false,false,false,false] rfl rfl (zAN HT_.out (by kernel_rfl)) (fun _ _ _ h=>h) (Or.inl ⟨by rfl,?_⟩) ?_ ?_
  rotate_left
  ·intro w'
   go_simp
   with_reducible rfl
  rotate_left
  ·simp only [Act.put,List.setIfInBounds_toArray,List.set_cons_zero,List.set_cons_succ,zAO,zAR]
   rfl
  refine zAa (i:=15) (N:=some 28) (v:=?_) (a':=?_) #[true,true,true,true,true,true,true,true,true,true,true,true,true,true,true,true,false,false,false,false,false,false,false,false,false] rfl rfl (zAN HT_.out (by kernel_rfl)) (fun _ _ _ h=>h) (Or.inl ⟨by rfl,?_⟩) ?_ ?_
  rotate_left
  ·intro w'
   go_simp
   with_reducible rfl
  rotate_left
  ·simp only [Act.put,List.setIfInBounds_toArray,List.set_cons_zero,List.set_cons_succ,zAO,zAR]
   rfl
  refine zAa (i:=16) (N:=some 29) (v:=undef) (a':=?_) #[true,true,true,true,true,true,true,true,true,true,true,true,true,true,true,true,true,false,false,false,false,false,false,false,false] rfl rfl (zAN HT_.out (by kernel_rfl)) (fun _ _ _ h=>h) (Or.inr ⟨by rfl,rfl⟩) ?_ ?_
  rotate_left
  ·simp only [Act.put,List.setIfInBounds_toArray,List.set_cons_zero,List.set_cons_succ,zAO,zAR]
   rfl
  refine zAa (i:=17) (N:=some 30) (v:=undef) (a':=?_) #[true,true,true,true,true,true,true,true,true,true,true,true,true,true,true,true,true,true,false,false,false,false,false,false,false] rfl rfl (zAN HT_.out (by kernel_rfl)) (fun _ _ _ h=>h) (Or.inr ⟨by rfl,rfl⟩) ?_ ?_
  rotate_left
  ·simp only [Act.put,List.setIfInBounds_toArray,List.set_cons_zero,List.set_cons_succ,zAO,zAR]
   rfl
  refine zAa (i:=18) (N:=some 31) (v:=undef) (a':=?_) #[true,true,true,true,true,true,true,true,true,true,true,true,true,true,true,true,true,true,true,false,false,false,false,false,false] rfl rfl (zAN HT_.out (by kernel_rfl)) (fun _ _ _ h=>h) (Or.inr ⟨by rfl,rfl⟩) ?_ ?_
  rotate_left
  ·simp only [Act.put,List.setIfInBounds_toArray,List.set_cons_zero,List.set_cons_succ,zAO,zAR]
   rfl
  refine zAa (i:=19) (N:=some 32) (v:=?_) (a':=?_) #[true,true,true,true,true,true,true,true,true,true,true,true,true,true,true,true,true,true,true,true,false,false,false,false,false] rfl rfl (zAN HT_.out (by kernel_rfl)) (fun _ _ _ h=>h) (Or.inl ⟨by rfl,?_⟩) ?_ ?_
  rotate_left
  ·intro w'
   go_simp
   with_reducible rfl
  rotate_left
  ·simp only [Act.put,List.setIfInBounds_toArray,List.set_cons_zero,List.set_cons_succ,zAO,zAR]
   rfl
  refine zAa (i:=20) (N:=some 33) (v:=?_) (a':=?_) #[true,true,true,true,true,true,true,true,true,true,true,true,true,true,true,true,true,true,true,true,true,false,false,false,false] rfl rfl (zAN HT_.out (by kernel_rfl)) (fun _ _ _ h=>h) (Or.inl ⟨by rfl,?_⟩) ?_ ?_
  rotate_left
  ·intro w'
   go_simp
   with_reducible rfl
  rotate_left
  ·simp only [Act.put,List.setIfInBounds_toArray,List.set_cons_zero,List.set_cons_succ,zAO,zAR]
   rfl
  refine zAa (i:=21) (N:=some 34) (v:=undef) (a':=?_) #[true,true,true,true,true,true,true,true,true,true,true,true,true,true,true,true,true,true,true,true,true,true,false,false,false] rfl rfl (zAN HT_.out (by kernel_rfl)) (fun _ _ _ h=>h) (Or.inr ⟨by rfl,rfl⟩) ?_ ?_
  rotate_left
  ·simp only [Act.put,List.setIfInBounds_toArray,List.set_cons_zero,List.set_cons_succ,zAO,zAR]
   rfl
  refine zAa (i:=22) (N:=some 35) (v:=undef) (a':=?_) #[true,true,true,true,true,true,true,true,true,true,true,true,true,true,true,true,true,true,true,true,true,true,true,false,false] rfl rfl (zAN HT_.out (by kernel_rfl)) (fun _ _ _ h=>h) (Or.inr ⟨by rfl,rfl⟩) ?_ ?_
  rotate_left
  ·simp only [Act.put,List.setIfInBounds_toArray,List.set_cons_zero,List.set_cons_succ,zAO,zAR]
   rfl
  refine zAa (i:=23) (N:=some 36) (v:=?_) (a':=?_) #[true,true,true,true,true,true,true,true,true,true,true,true,true,true,true,true,true,true,true,true,true,true,true,true,false] rfl rfl (zAN HT_.out (by kernel_rfl)) (fun _ _ _ h=>h) (Or.inl ⟨by rfl,?_⟩) ?_ ?_
  rotate_left
  ·intro w'
   go_simp
   with_reducible rfl
  rotate_left
  ·simp only [Act.put,List.setIfInBounds_toArray,List.set_cons_zero,List.set_cons_succ,zAO,zAR]
   rfl
  refine zAa (i:=24) (N:=some 0) (v:=?_) (a':=?_) #[true,true,true,true,true,true,true,true,true,true,true,true,true,true,true,true,true,true,true,true,true,true,true,true,true] rfl rfl (zAN HT_.out (by kernel_rfl)) (fun _ _ _ h=>h) (Or.inl ⟨by rfl,?_⟩) ?_ ?_
  rotate_left
  ·intro w'
   go_simp
   with_reducible rfl
  rotate_left
  ·simp only [Act.put,List.setIfInBounds_toArray,List.set_cons_zero,List.set_cons_succ,zAO,zAR]
   rfl
  refine done_ (done_of HT_.out (by kernel_rfl)) ?_
  try go_wp2
  go_ret
  exact ⟨by first|rfl|(simp [zAP,zAQ] <;> rfl)|(simp [*,zAP,zAQ] <;> rfl),aI_ HB.out GE239.out⟩
 rw [if_pos c4] at H
 have c4b0:(t241 == 0)=true:=beq_iff_eq.mpr c4
 have c4b1:(t241 != 0)=false:=bne_eq_false_iff_eq.mpr c4
 clear c4
 replace H:=Option.bind_eq_some_iff.mp H
 obtain ⟨⟨t242,t243⟩,A50,H⟩:=H
 replace H:(if (t236 == t242 && (t237 == t243))=true then (if t240=1230 then ((wide_Of.f (-15)).bind fun bt244=>((deci_Text.f k bt244.1 bt244.2).bind fun t246=>(if t246.toList=([45,49,53]:List UInt8) then ((deci_Money.f k (-5)).bind fun t247=>(some (t247.toList == ([45,48,46,48,53]:List UInt8)))) else (some false)))) else (some false)) else (some false))=some r:=H
 have A5:=aK_ A50
 clear A50
 by_cases c6:(t236 == t242 && (t237 == t243))=true
 rotate_left
 ·rw [if_neg c6] at H
  have c6b0:(t236 == t242 && (t237 == t243))=false:=by simpa using c6
  (try (have c6b1:decide (t236=t242 && (t237 == t243))=false:=by simpa using c6))
  (try (have c6b2:(t236 == t242 && (t237 == t243))=false:=by simpa using c6))
  (try (have c6b3 : ¬ (t236=t242 && (t237 == t243)):=by simpa using c6))
  clear c6
  obtain rfl:=Option.some.inj H
  go_enter Tryz.func4,Tryz.ntmps4
  try go_wp2_with (first|((with_reducible refine zAM (f:=9) rfl ?_);refine goesL_ (some 6) rfl rfl Tryz.func9 (by kernel_rfl) rfl #[.string (⟨#[45,49,53]⟩:ByteArray)] rfl aM_ ?_;(with_reducible refine (zAb.calls k (⟨#[45,49,53]⟩:ByteArray) t236 t237 t238 _ A1.out).mono ?_);rintro e w35 ⟨rfl,hb⟩;refine ⟨_,rfl,?_⟩;have n0_:=aK_ (zAE (aH_ HB.out) hb);clear HB;have HB:=n0_;clear n0_;(try clear hb);(try clear hb2);(try clear hk);(try clear hi))|((with_reducible refine zAc (N:=1) rfl ?_);refine zAX ?hg (N:=1) ?hd (cs:=#[.int .i64 0,.int .u64 0]) (t:=32) ?hr ?_;(case hd=>rfl);(case hg=>rfl);(case hr=>first|(go_simp;done)|(go_simp;rfl));intro gb239 hg w36 hbox hb;have n0_:=aK_ (zAE (aH_ HB.out) hb);have n1_:=aK_ (hbox);have n2_:=aK_ ((by rw [hg];exact (zAF (aH_ HB.out)):w.heap.size≤gb239));have n3_:=aK_ ((by rw [hg];exact (zAF (aH_ HB.out)):w.heap.size≤gb239));clear HB;have HB:=n0_;have BK239:=n1_;have GW239:=n2_;have GE239:=n3_;clear n0_ n1_ n2_ n3_;clear hb hbox hg;have hcz37_0:w36.cell? ⟨gb239,0,none⟩=some (.int .i64 0):=(zAB BK239.out 0).trans rfl;have hcz37_1:w36.cell? ⟨gb239,1,none⟩=some (.int .u64 0):=(zAB BK239.out 1).trans rfl;have hfz37_0:=zAA BK239.out 0;have hfz37_1:=zAA BK239.out 1)|((with_reducible refine zAM (f:=7) rfl ?_);refine goesL_ (some 10) rfl rfl Tryz.func7 (by kernel_rfl) rfl #[.string (⟨#[49,50,46,51,48]⟩:ByteArray)] rfl aM_ ?_;(with_reducible refine (deci_Coins.calls (⟨#[49,50,46,51,48]⟩:ByteArray) t240 t241 _ ?side1 A2.out).mono ?_);(case side1=>(first|(with_reducible exact hG)|((repeat (with_reducible first|exact hG|apply GW.drewN|apply GW.drew|apply GW.alloc));done)|exact GW.below hG (aI_ HB.out GE239.out)));rintro e w38 ⟨rfl,hb⟩;refine ⟨_,rfl,?_⟩;have n0_:=aK_ (zAC (g:=gb239) (o:=.cells #[.int .i64 t236,.int .u64 t237] 32 (0,0)) (by refine aB_ ?_;refine zAW (cs:=#[.int .i64 t236,.int .u64 0]) ?_ 1 _ rfl;refine aB_ ?_;refine zAW (cs:=#[.int .i64 0,.int .u64 0]) ?_ 0 _ rfl;refine aB_ ?_;exact BK239.out) hb);have n1_:=aK_ (zAE (aI_ HB.out GE239.out) hb);clear BK239;clear HB;have BK239:=n0_;have HB:=n1_;clear n0_ n1_;(try clear hb);(try clear hb2);(try clear hk);(try clear hi)))
  have n0_:=aK_ (blk_drew BK239.out)
  have n1_:=aK_ (below_drew1 HB.out)
  clear BK239
  clear HB
  have BK239:=n0_
  have HB:=n1_
  clear n0_ n1_
  refine start_ (n:=25) (S:=fun w'=>w'.cell? ⟨gb239,0,none⟩=some (.int .i64 t236)∧w'.cell? ⟨gb239,1,none⟩=some (.int .u64 t237)) (ds:=[]) #[false,false,false,false,false,false,false,false,false,false,false,false,false,false,false,false,false,false,false,false,false,false,false,false,false] (by kernel_rfl) rfl rfl ⟨(zAB BK239.out 0).trans rfl,(zAB BK239.out 1).trans rfl⟩ (fun hHeld=>?_);refine with_tabW zAY.tab3 zAY.bits3 (fun HT_ HW_=>?_)
  generalize w38.drew=w39 at BK239 HB hHeld ⊢
  refine zAa (i:=0) (N:=some 13) (v:=?_) (a':=?_) #[true,false,false,false,false,false,false,false,false,false,false,false,false,false,false,false,false,false,false,false,false,false,false,false,false] rfl rfl (zAN HT_.out (by kernel_rfl)) (fun _ _ _ h=>h) (Or.inl ⟨by rfl,?_⟩) ?_ ?_
  rotate_left
  ·intro w'
   go_simp
   with_reducible rfl
  rotate_left
  ·simp only [Act.put,List.setIfInBounds_toArray,List.set_cons_zero,List.set_cons_succ,zAO,zAR]
   rfl
  refine zAa (i:=1) (N:=some 14) (v:=?_) (a':=?_) #[true,true,false,false,false,false,false,false,false,false,false,false,false,false,false,false,false,false,false,false,false,false,false,false,false] rfl rfl (zAN HT_.out (by kernel_rfl)) (fun _ _ _ h=>h) (Or.inl ⟨by rfl,?_⟩) ?_ ?_
  rotate_left
  ·intro w'
   go_simp
   with_reducible rfl
  rotate_left
  ·simp only [Act.put,List.setIfInBounds_toArray,List.set_cons_zero,List.set_cons_succ,zAO,zAR]
   rfl
  refine zAa (i:=2) (N:=some 15) (v:=?_) (a':=?_) #[true,true,true,false,false,false,false,false,false,false,false,false,false,false,false,false,false,false,false,false,false,false,false,false,false] rfl rfl (zAN HT_.out (by kernel_rfl)) (fun _ _ _ h=>h) (Or.inl ⟨by rfl,?_⟩) ?_ ?_
  rotate_left
  ·intro w'
   go_simp
   with_reducible rfl
  rotate_left
  ·simp only [Act.put,List.setIfInBounds_toArray,List.set_cons_zero,List.set_cons_succ,zAO,zAR]
   rfl
  refine zAa (i:=3) (N:=some 16) (v:=?_) (a':=?_) #[true,true,true,true,false,false,false,false,false,false,false,false,false,false,false,false,false,false,false,false,false,false,false,false,false] rfl rfl (zAN HT_.out (by kernel_rfl)) (fun _ _ _ h=>h) (Or.inl ⟨by rfl,?_⟩) ?_ ?_
  rotate_left
  ·intro w'
   go_simp
   with_reducible rfl
  rotate_left
  ·simp only [Act.put,List.setIfInBounds_toArray,List.set_cons_zero,List.set_cons_succ,zAO,zAR]
   rfl
  refine zAa (i:=4) (N:=some 17) (v:=?_) (a':=?_) #[true,true,true,true,true,false,false,false,false,false,false,false,false,false,false,false,false,false,false,false,false,false,false,false,false] rfl rfl (zAN HT_.out (by kernel_rfl)) (fun _ _ _ h=>h) (Or.inl ⟨by rfl,?_⟩) ?_ ?_
  rotate_left
  ·intro w'
   go_simp
   with_reducible rfl
  rotate_left
  ·simp only [Act.put,List.setIfInBounds_toArray,List.set_cons_zero,List.set_cons_succ,zAO,zAR]
   rfl
  refine zAa (i:=5) (N:=some 18) (v:=?_) (a':=?_) #[true,true,true,true,true,true,false,false,false,false,false,false,false,false,false,false,false,false,false,false,false,false,false,false,false] rfl rfl (zAN HT_.out (by kernel_rfl)) (fun _ _ _ h=>h) (Or.inl ⟨by rfl,?_⟩) ?_ ?_
  rotate_left
  ·intro w'
   go_simp
   with_reducible rfl
  rotate_left
  ·simp only [Act.put,List.setIfInBounds_toArray,List.set_cons_zero,List.set_cons_succ,zAO,zAR]
   rfl
  refine zAa (i:=6) (N:=some 19) (v:=?_) (a':=?_) #[true,true,true,true,true,true,true,false,false,false,false,false,false,false,false,false,false,false,false,false,false,false,false,false,false] rfl rfl (zAN HT_.out (by kernel_rfl)) (fun _ _ _ h=>h) (Or.inl ⟨by rfl,?_⟩) ?_ ?_
  rotate_left
  ·intro w'
   go_simp
   with_reducible rfl
  rotate_left
  ·simp only [Act.put,List.setIfInBounds_toArray,List.set_cons_zero,List.set_cons_succ,zAO,zAR]
   rfl
  refine take_ (i:=7) (N:=some 20) (v:=?_) (a':=?_) #[true,true,true,true,true,true,true,true,false,false,false,false,false,false,false,false,false,false,false,false,false,false,false,false,false] rfl rfl (take_ofW HT_.out HW_.out (by kernel_rfl)) (fun _ _ _ h=>h) (Or.inl ⟨by rfl,?_⟩) hHeld ?_ ?_
  rotate_left
  ·rintro w' ⟨s0,s1⟩
   go_simp
   with_reducible rfl
  rotate_left
  ·simp only [Act.put,List.setIfInBounds_toArray,List.set_cons_zero,List.set_cons_succ,zAO,zAR]
   rfl
  refine one_ (i:=8) (N:=some 21) #[true,true,true,true,true,true,true,true,true,false,false,false,false,false,false,false,false,false,false,false,false,false,false,false,false] rfl rfl (one_of HT_.out (by kernel_rfl)) (by decide) (fun K hK=>?_)
  refine goes_ Tryz.func10 (by kernel_rfl) rfl #[.int .i64 (-15)] (by rfl) rfl rfl aM_ ?_
  with_reducible refine (wide_Of.calls (-15) t242 t243 _ A5.out).mono ?_
  rintro e w40 ⟨rfl,hb⟩
  refine ⟨_,rfl,?_⟩
  have n0_:=aK_ (zAC (g:=gb239) (o:=.cells #[.int .i64 t236,.int .u64 t237] 32 (0,0)) (aB_ BK239.out) hb)
  have n1_:=aK_ (zAE (aI_ HB.out GE239.out) hb)
  clear BK239
  clear HB
  have BK239:=n0_
  have HB:=n1_
  clear n0_ n1_
  (try clear hb)
  (try clear hb2)
  (try clear hk)
  (try clear hi)
  refine hK.out _ _ ⟨(zAB BK239.out 0).trans rfl,(zAB BK239.out 1).trans rfl⟩ (fun hHeld=>?_)
  clear hK K
  refine norm_ (a':=?_) ?_ ?_
  rotate_left
  ·show Act.put _ (some 21) _=_
   simp only [Act.put,List.setIfInBounds_toArray,List.set_cons_zero,List.set_cons_succ,zAO,zAR]
   rfl
  refine zAa (i:=9) (N:=some 22) (v:=?_) (a':=?_) #[true,true,true,true,true,true,true,true,true,true,false,false,false,false,false,false,false,false,false,false,false,false,false,false,false] rfl rfl (zAN HT_.out (by kernel_rfl)) (fun _ _ _ h=>h) (Or.inl ⟨by rfl,?_⟩) ?_ ?_
  rotate_left
  ·intro w'
   go_simp
   with_reducible rfl
  rotate_left
  ·simp only [Act.put,List.setIfInBounds_toArray,List.set_cons_zero,List.set_cons_succ,zAO,zAR]
   rfl
  refine zAa (i:=10) (N:=some 23) (v:=?_) (a':=?_) #[true,true,true,true,true,true,true,true,true,true,true,false,false,false,false,false,false,false,false,false,false,false,false,false,false] rfl rfl (zAN HT_.out (by kernel_rfl)) (fun _ _ _ h=>h) (Or.inl ⟨by rfl,?_⟩) ?_ ?_
  rotate_left
  ·intro w'
   go_simp
   with_reducible rfl
  rotate_left
  ·simp only [Act.put,List.setIfInBounds_toArray,List.set_cons_zero,List.set_cons_succ,zAO,zAR]
   rfl
  refine zAa (i:=11) (N:=some 24) (v:=?_) (a':=?_) #[true,true,true,true,true,true,true,true,true,true,true,true,false,false,false,false,false,false,false,false,false,false,false,false,false] rfl rfl (zAN HT_.out (by kernel_rfl)) (fun _ _ _ h=>h) (Or.inl ⟨by rfl,?_⟩) ?_ ?_
  rotate_left
  ·intro w'
   go_simp
   with_reducible rfl
  rotate_left
  ·simp only [Act.put,List.setIfInBounds_toArray,List.set_cons_zero,List.set_cons_succ,zAO,zAR]
   rfl
  refine zAa (i:=12) (N:=some 25) (v:=undef) (a':=?_) #[true,true,true,true,true,true,true,true,true,true,true,true,true,false,false,false,false,false,false,false,false,false,false,false,false] rfl rfl (zAN HT_.out (by kernel_rfl)) (fun _ _ _ h=>h) (Or.inr ⟨by rfl,rfl⟩) ?_ ?_
  rotate_left
  ·simp only [Act.put,List.setIfInBounds_toArray,List.set_cons_zero,List.set_cons_succ,zAO,zAR]
   rfl
  refine zAa (i:=13) (N:=some 26) (v:=undef) (a':=?_) #[true,true,true,true,true,true,true,true,true,true,true,true,true,true,false,false,false,false,false,false,false,false,false,false,false] rfl rfl (zAN HT_.out (by kernel_rfl)) (fun _ _ _ h=>h) (Or.inr ⟨by rfl,rfl⟩) ?_ ?_
  rotate_left
  ·simp only [Act.put,List.setIfInBounds_toArray,List.set_cons_zero,List.set_cons_succ,zAO,zAR]
   rfl
  refine zAa (i:=14) (N:=some 27) (v:=?_) (a':=?_) #[true,true,true,true,true,true,true,true,true,true,true,true,true,true,true,false,false,false,false,false,false,false,false,false,false] rfl rfl (zAN HT_.out (by kernel_rfl)) (fun _ _ _ h=>h) (Or.inl ⟨by rfl,?_⟩) ?_ ?_
  rotate_left
  ·intro w'
   go_simp
   with_reducible rfl
  rotate_left
  ·simp only [Act.put,List.setIfInBounds_toArray,List.set_cons_zero,List.set_cons_succ,zAO,zAR]
   rfl
  refine zAa (i:=15) (N:=some 28) (v:=?_) (a':=?_) #[true,true,true,true,true,true,true,true,true,true,true,true,true,true,true,true,false,false,false,false,false,false,false,false,false] rfl rfl (zAN HT_.out (by kernel_rfl)) (fun _ _ _ h=>h) (Or.inl ⟨by rfl,?_⟩) ?_ ?_
  rotate_left
  ·intro w'
   go_simp
   with_reducible rfl
  rotate_left
  ·simp only [Act.put,List.setIfInBounds_toArray,List.set_cons_zero,List.set_cons_succ,zAO,zAR]
   rfl
  refine zAa (i:=16) (N:=some 29) (v:=undef) (a':=?_) #[true,true,true,true,true,true,true,true,true,true,true,true,true,true,true,true,true,false,false,false,false,false,false,false,false] rfl rfl (zAN HT_.out (by kernel_rfl)) (fun _ _ _ h=>h) (Or.inr ⟨by rfl,rfl⟩) ?_ ?_
  rotate_left
  ·simp only [Act.put,List.setIfInBounds_toArray,List.set_cons_zero,List.set_cons_succ,zAO,zAR]
   rfl
  refine zAa (i:=17) (N:=some 30) (v:=undef) (a':=?_) #[true,true,true,true,true,true,true,true,true,true,true,true,true,true,true,true,true,true,false,false,false,false,false,false,false] rfl rfl (zAN HT_.out (by kernel_rfl)) (fun _ _ _ h=>h) (Or.inr ⟨by rfl,rfl⟩) ?_ ?_
  rotate_left
  ·simp only [Act.put,List.setIfInBounds_toArray,List.set_cons_zero,List.set_cons_succ,zAO,zAR]
   rfl
  refine zAa (i:=18) (N:=some 31) (v:=undef) (a':=?_) #[true,true,true,true,true,true,true,true,true,true,true,true,true,true,true,true,true,true,true,false,false,false,false,false,false] rfl rfl (zAN HT_.out (by kernel_rfl)) (fun _ _ _ h=>h) (Or.inr ⟨by rfl,rfl⟩) ?_ ?_
  rotate_left
  ·simp only [Act.put,List.setIfInBounds_toArray,List.set_cons_zero,List.set_cons_succ,zAO,zAR]
   rfl
  refine zAa (i:=19) (N:=some 32) (v:=?_) (a':=?_) #[true,true,true,true,true,true,true,true,true,true,true,true,true,true,true,true,true,true,true,true,false,false,false,false,false] rfl rfl (zAN HT_.out (by kernel_rfl)) (fun _ _ _ h=>h) (Or.inl ⟨by rfl,?_⟩) ?_ ?_
  rotate_left
  ·intro w'
   go_simp
   with_reducible rfl
  rotate_left
  ·simp only [Act.put,List.setIfInBounds_toArray,List.set_cons_zero,List.set_cons_succ,zAO,zAR]
   rfl
  refine zAa (i:=20) (N:=some 33) (v:=?_) (a':=?_) #[true,true,true,true,true,true,true,true,true,true,true,true,true,true,true,true,true,true,true,true,true,false,false,false,false] rfl rfl (zAN HT_.out (by kernel_rfl)) (fun _ _ _ h=>h) (Or.inl ⟨by rfl,?_⟩) ?_ ?_
  rotate_left
  ·intro w'
   go_simp
   with_reducible rfl
  rotate_left
  ·simp only [Act.put,List.setIfInBounds_toArray,List.set_cons_zero,List.set_cons_succ,zAO,zAR]
   rfl
  refine zAa (i:=21) (N:=some 34) (v:=undef) (a':=?_) #[true,true,true,true,true,true,true,true,true,true,true,true,true,true,true,true,true,true,true,true,true,true,false,false,false] rfl rfl (zAN HT_.out (by kernel_rfl)) (fun _ _ _ h=>h) (Or.inr ⟨by rfl,rfl⟩) ?_ ?_
  rotate_left
  ·simp only [Act.put,List.setIfInBounds_toArray,List.set_cons_zero,List.set_cons_succ,zAO,zAR]
   rfl
  refine zAa (i:=22) (N:=some 35) (v:=undef) (a':=?_) #[true,true,true,true,true,true,true,true,true,true,true,true,true,true,true,true,true,true,true,true,true,true,true,false,false] rfl rfl (zAN HT_.out (by kernel_rfl)) (fun _ _ _ h=>h) (Or.inr ⟨by rfl,rfl⟩) ?_ ?_
  rotate_left
  ·simp only [Act.put,List.setIfInBounds_toArray,List.set_cons_zero,List.set_cons_succ,zAO,zAR]
   rfl
  refine zAa (i:=23) (N:=some 36) (v:=?_) (a':=?_) #[true,true,true,true,true,true,true,true,true,true,true,true,true,true,true,true,true,true,true,true,true,true,true,true,false] rfl rfl (zAN HT_.out (by kernel_rfl)) (fun _ _ _ h=>h) (Or.inl ⟨by rfl,?_⟩) ?_ ?_
  rotate_left
  ·intro w'
   go_simp
   with_reducible rfl
  rotate_left
  ·simp only [Act.put,List.setIfInBounds_toArray,List.set_cons_zero,List.set_cons_succ,zAO,zAR]
   rfl
  refine zAa (i:=24) (N:=some 0) (v:=?_) (a':=?_) #[true,true,true,true,true,true,true,true,true,true,true,true,true,true,true,true,true,true,true,true,true,true,true,true,true] rfl rfl (zAN HT_.out (by kernel_rfl)) (fun _ _ _ h=>h) (Or.inl ⟨by rfl,?_⟩) ?_ ?_
  rotate_left
  ·intro w'
   go_simp
   with_reducible rfl
  rotate_left
  ·simp only [Act.put,List.setIfInBounds_toArray,List.set_cons_zero,List.set_cons_succ,zAO,zAR]
   rfl
  refine done_ (done_of HT_.out (by kernel_rfl)) ?_
  try go_wp2
  go_ret
  exact ⟨by first|rfl|(simp [zAP,zAQ] <;> rfl)|(simp [*,zAP,zAQ] <;> rfl),aI_ HB.out GE239.out⟩
 rw [if_pos c6] at H
 have c6b0:(t236 == t242 && (t237 == t243))=true:=c6
 (try (have c6b1:decide (t236=t242 && (t237 == t243))=true:=by simpa using c6))
 (try (have c6b2:(t236 == t242 && (t237 == t243))=true:=by simpa using c6))
 clear c6
 by_cases c7:t240=1230
 rotate_left
 ·rw [if_neg c7] at H
  have c7b0:(t240 == 1230)=false:=beq_eq_false_iff_ne.mpr c7
  have c7b1:(t240 != 1230)=true:=bne_iff_ne.mpr c7
  obtain rfl:=Option.some.inj H
  go_enter Tryz.func4,Tryz.ntmps4
  try go_wp2_with (first|((with_reducible refine zAM (f:=9) rfl ?_);refine goesL_ (some 6) rfl rfl Tryz.func9 (by kernel_rfl) rfl #[.string (⟨#[45,49,53]⟩:ByteArray)] rfl aM_ ?_;(with_reducible refine (zAb.calls k (⟨#[45,49,53]⟩:ByteArray) t236 t237 t238 _ A1.out).mono ?_);rintro e w29 ⟨rfl,hb⟩;refine ⟨_,rfl,?_⟩;have n0_:=aK_ (zAE (aH_ HB.out) hb);clear HB;have HB:=n0_;clear n0_;(try clear hb);(try clear hb2);(try clear hk);(try clear hi))|((with_reducible refine zAc (N:=1) rfl ?_);refine zAX ?hg (N:=1) ?hd (cs:=#[.int .i64 0,.int .u64 0]) (t:=32) ?hr ?_;(case hd=>rfl);(case hg=>rfl);(case hr=>first|(go_simp;done)|(go_simp;rfl));intro gb239 hg w30 hbox hb;have n0_:=aK_ (zAE (aH_ HB.out) hb);have n1_:=aK_ (hbox);have n2_:=aK_ ((by rw [hg];exact (zAF (aH_ HB.out)):w.heap.size≤gb239));have n3_:=aK_ ((by rw [hg];exact (zAF (aH_ HB.out)):w.heap.size≤gb239));clear HB;have HB:=n0_;have BK239:=n1_;have GW239:=n2_;have GE239:=n3_;clear n0_ n1_ n2_ n3_;clear hb hbox hg;have hcz31_0:w30.cell? ⟨gb239,0,none⟩=some (.int .i64 0):=(zAB BK239.out 0).trans rfl;have hcz31_1:w30.cell? ⟨gb239,1,none⟩=some (.int .u64 0):=(zAB BK239.out 1).trans rfl;have hfz31_0:=zAA BK239.out 0;have hfz31_1:=zAA BK239.out 1)|((with_reducible refine zAM (f:=7) rfl ?_);refine goesL_ (some 10) rfl rfl Tryz.func7 (by kernel_rfl) rfl #[.string (⟨#[49,50,46,51,48]⟩:ByteArray)] rfl aM_ ?_;(with_reducible refine (deci_Coins.calls (⟨#[49,50,46,51,48]⟩:ByteArray) t240 t241 _ ?side1 A2.out).mono ?_);(case side1=>(first|(with_reducible exact hG)|((repeat (with_reducible first|exact hG|apply GW.drewN|apply GW.drew|apply GW.alloc));done)|exact GW.below hG (aI_ HB.out GE239.out)));rintro e w32 ⟨rfl,hb⟩;refine ⟨_,rfl,?_⟩;have n0_:=aK_ (zAC (g:=gb239) (o:=.cells #[.int .i64 t236,.int .u64 t237] 32 (0,0)) (by refine aB_ ?_;refine zAW (cs:=#[.int .i64 t236,.int .u64 0]) ?_ 1 _ rfl;refine aB_ ?_;refine zAW (cs:=#[.int .i64 0,.int .u64 0]) ?_ 0 _ rfl;refine aB_ ?_;exact BK239.out) hb);have n1_:=aK_ (zAE (aI_ HB.out GE239.out) hb);clear BK239;clear HB;have BK239:=n0_;have HB:=n1_;clear n0_ n1_;(try clear hb);(try clear hb2);(try clear hk);(try clear hi)))
  have n0_:=aK_ (blk_drew BK239.out)
  have n1_:=aK_ (below_drew1 HB.out)
  clear BK239
  clear HB
  have BK239:=n0_
  have HB:=n1_
  clear n0_ n1_
  refine start_ (n:=25) (S:=fun w'=>w'.cell? ⟨gb239,0,none⟩=some (.int .i64 t236)∧w'.cell? ⟨gb239,1,none⟩=some (.int .u64 t237)) (ds:=[]) #[false,false,false,false,false,false,false,false,false,false,false,false,false,false,false,false,false,false,false,false,false,false,false,false,false] (by kernel_rfl) rfl rfl ⟨(zAB BK239.out 0).trans rfl,(zAB BK239.out 1).trans rfl⟩ (fun hHeld=>?_);refine with_tabW zAY.tab3 zAY.bits3 (fun HT_ HW_=>?_)
  generalize w32.drew=w33 at BK239 HB hHeld ⊢
  refine zAa (i:=0) (N:=some 13) (v:=?_) (a':=?_) #[true,false,false,false,false,false,false,false,false,false,false,false,false,false,false,false,false,false,false,false,false,false,false,false,false] rfl rfl (zAN HT_.out (by kernel_rfl)) (fun _ _ _ h=>h) (Or.inl ⟨by rfl,?_⟩) ?_ ?_
  rotate_left
  ·intro w'
   go_simp
   with_reducible rfl
  rotate_left
  ·simp only [Act.put,List.setIfInBounds_toArray,List.set_cons_zero,List.set_cons_succ,zAO,zAR]
   rfl
  refine zAa (i:=1) (N:=some 14) (v:=?_) (a':=?_) #[true,true,false,false,false,false,false,false,false,false,false,false,false,false,false,false,false,false,false,false,false,false,false,false,false] rfl rfl (zAN HT_.out (by kernel_rfl)) (fun _ _ _ h=>h) (Or.inl ⟨by rfl,?_⟩) ?_ ?_
  rotate_left
  ·intro w'
   go_simp
   with_reducible rfl
  rotate_left
  ·simp only [Act.put,List.setIfInBounds_toArray,List.set_cons_zero,List.set_cons_succ,zAO,zAR]
   rfl
  refine zAa (i:=2) (N:=some 15) (v:=?_) (a':=?_) #[true,true,true,false,false,false,false,false,false,false,false,false,false,false,false,false,false,false,false,false,false,false,false,false,false] rfl rfl (zAN HT_.out (by kernel_rfl)) (fun _ _ _ h=>h) (Or.inl ⟨by rfl,?_⟩) ?_ ?_
  rotate_left
  ·intro w'
   go_simp
   with_reducible rfl
  rotate_left
  ·simp only [Act.put,List.setIfInBounds_toArray,List.set_cons_zero,List.set_cons_succ,zAO,zAR]
   rfl
  refine zAa (i:=3) (N:=some 16) (v:=?_) (a':=?_) #[true,true,true,true,false,false,false,false,false,false,false,false,false,false,false,false,false,false,false,false,false,false,false,false,false] rfl rfl (zAN HT_.out (by kernel_rfl)) (fun _ _ _ h=>h) (Or.inl ⟨by rfl,?_⟩) ?_ ?_
  rotate_left
  ·intro w'
   go_simp
   with_reducible rfl
  rotate_left
  ·simp only [Act.put,List.setIfInBounds_toArray,List.set_cons_zero,List.set_cons_succ,zAO,zAR]
   rfl
  refine zAa (i:=4) (N:=some 17) (v:=?_) (a':=?_) #[true,true,true,true,true,false,false,false,false,false,false,false,false,false,false,false,false,false,false,false,false,false,false,false,false] rfl rfl (zAN HT_.out (by kernel_rfl)) (fun _ _ _ h=>h) (Or.inl ⟨by rfl,?_⟩) ?_ ?_
  rotate_left
  ·intro w'
   go_simp
   with_reducible rfl
  rotate_left
  ·simp only [Act.put,List.setIfInBounds_toArray,List.set_cons_zero,List.set_cons_succ,zAO,zAR]
   rfl
  refine zAa (i:=5) (N:=some 18) (v:=?_) (a':=?_) #[true,true,true,true,true,true,false,false,false,false,false,false,false,false,false,false,false,false,false,false,false,false,false,false,false] rfl rfl (zAN HT_.out (by kernel_rfl)) (fun _ _ _ h=>h) (Or.inl ⟨by rfl,?_⟩) ?_ ?_
  rotate_left
  ·intro w'
   go_simp
   with_reducible rfl
  rotate_left
  ·simp only [Act.put,List.setIfInBounds_toArray,List.set_cons_zero,List.set_cons_succ,zAO,zAR]
   rfl
  refine zAa (i:=6) (N:=some 19) (v:=?_) (a':=?_) #[true,true,true,true,true,true,true,false,false,false,false,false,false,false,false,false,false,false,false,false,false,false,false,false,false] rfl rfl (zAN HT_.out (by kernel_rfl)) (fun _ _ _ h=>h) (Or.inl ⟨by rfl,?_⟩) ?_ ?_
  rotate_left
  ·intro w'
   go_simp
   with_reducible rfl
  rotate_left
  ·simp only [Act.put,List.setIfInBounds_toArray,List.set_cons_zero,List.set_cons_succ,zAO,zAR]
   rfl
  refine take_ (i:=7) (N:=some 20) (v:=?_) (a':=?_) #[true,true,true,true,true,true,true,true,false,false,false,false,false,false,false,false,false,false,false,false,false,false,false,false,false] rfl rfl (take_ofW HT_.out HW_.out (by kernel_rfl)) (fun _ _ _ h=>h) (Or.inl ⟨by rfl,?_⟩) hHeld ?_ ?_
  rotate_left
  ·rintro w' ⟨s0,s1⟩
   go_simp
   with_reducible rfl
  rotate_left
  ·simp only [Act.put,List.setIfInBounds_toArray,List.set_cons_zero,List.set_cons_succ,zAO,zAR]
   rfl
  refine one_ (i:=8) (N:=some 21) #[true,true,true,true,true,true,true,true,true,false,false,false,false,false,false,false,false,false,false,false,false,false,false,false,false] rfl rfl (one_of HT_.out (by kernel_rfl)) (by decide) (fun K hK=>?_)
  refine goes_ Tryz.func10 (by kernel_rfl) rfl #[.int .i64 (-15)] (by rfl) rfl rfl aM_ ?_
  with_reducible refine (wide_Of.calls (-15) t242 t243 _ A5.out).mono ?_
  rintro e w34 ⟨rfl,hb⟩
  refine ⟨_,rfl,?_⟩
  have n0_:=aK_ (zAC (g:=gb239) (o:=.cells #[.int .i64 t236,.int .u64 t237] 32 (0,0)) (aB_ BK239.out) hb)
  have n1_:=aK_ (zAE (aI_ HB.out GE239.out) hb)
  clear BK239
  clear HB
  have BK239:=n0_
  have HB:=n1_
  clear n0_ n1_
  (try clear hb)
  (try clear hb2)
  (try clear hk)
  (try clear hi)
  refine hK.out _ _ ⟨(zAB BK239.out 0).trans rfl,(zAB BK239.out 1).trans rfl⟩ (fun hHeld=>?_)
  clear hK K
  refine norm_ (a':=?_) ?_ ?_
  rotate_left
  ·show Act.put _ (some 21) _=_
   simp only [Act.put,List.setIfInBounds_toArray,List.set_cons_zero,List.set_cons_succ,zAO,zAR]
   rfl
  refine zAa (i:=9) (N:=some 22) (v:=?_) (a':=?_) #[true,true,true,true,true,true,true,true,true,true,false,false,false,false,false,false,false,false,false,false,false,false,false,false,false] rfl rfl (zAN HT_.out (by kernel_rfl)) (fun _ _ _ h=>h) (Or.inl ⟨by rfl,?_⟩) ?_ ?_
  rotate_left
  ·intro w'
   go_simp
   with_reducible rfl
  rotate_left
  ·simp only [Act.put,List.setIfInBounds_toArray,List.set_cons_zero,List.set_cons_succ,zAO,zAR]
   rfl
  refine zAa (i:=10) (N:=some 23) (v:=?_) (a':=?_) #[true,true,true,true,true,true,true,true,true,true,true,false,false,false,false,false,false,false,false,false,false,false,false,false,false] rfl rfl (zAN HT_.out (by kernel_rfl)) (fun _ _ _ h=>h) (Or.inl ⟨by rfl,?_⟩) ?_ ?_
  rotate_left
  ·intro w'
   go_simp
   with_reducible rfl
  rotate_left
  ·simp only [Act.put,List.setIfInBounds_toArray,List.set_cons_zero,List.set_cons_succ,zAO,zAR]
   rfl
  refine zAa (i:=11) (N:=some 24) (v:=?_) (a':=?_) #[true,true,true,true,true,true,true,true,true,true,true,true,false,false,false,false,false,false,false,false,false,false,false,false,false] rfl rfl (zAN HT_.out (by kernel_rfl)) (fun _ _ _ h=>h) (Or.inl ⟨by rfl,?_⟩) ?_ ?_
  rotate_left
  ·intro w'
   go_simp
   with_reducible rfl
  rotate_left
  ·simp only [Act.put,List.setIfInBounds_toArray,List.set_cons_zero,List.set_cons_succ,zAO,zAR]
   rfl
  refine zAa (i:=12) (N:=some 25) (v:=?_) (a':=?_) #[true,true,true,true,true,true,true,true,true,true,true,true,true,false,false,false,false,false,false,false,false,false,false,false,false] rfl rfl (zAN HT_.out (by kernel_rfl)) (fun _ _ _ h=>h) (Or.inl ⟨by rfl,?_⟩) ?_ ?_
  rotate_left
  ·intro w'
   go_simp
   with_reducible rfl
  rotate_left
  ·simp only [Act.put,List.setIfInBounds_toArray,List.set_cons_zero,List.set_cons_succ,zAO,zAR]
   rfl
  refine zAa (i:=13) (N:=some 26) (v:=?_) (a':=?_) #[true,true,true,true,true,true,true,true,true,true,true,true,true,true,false,false,false,false,false,false,false,false,false,false,false] rfl rfl (zAN HT_.out (by kernel_rfl)) (fun _ _ _ h=>h) (Or.inl ⟨by rfl,?_⟩) ?_ ?_
  rotate_left
  ·intro w'
   go_simp
   with_reducible rfl
  rotate_left
  ·simp only [Act.put,List.setIfInBounds_toArray,List.set_cons_zero,List.set_cons_succ,zAO,zAR]
   rfl
  refine zAa (i:=14) (N:=some 27) (v:=?_) (a':=?_) #[true,true,true,true,true,true,true,true,true,true,true,true,true,true,true,false,false,false,false,false,false,false,false,false,false] rfl rfl (zAN HT_.out (by kernel_rfl)) (fun _ _ _ h=>h) (Or.inl ⟨by rfl,?_⟩) ?_ ?_
  rotate_left
  ·intro w'
   go_simp
   with_reducible rfl
  rotate_left
  ·simp only [Act.put,List.setIfInBounds_toArray,List.set_cons_zero,List.set_cons_succ,zAO,zAR]
   rfl
  refine zAa (i:=15) (N:=some 28) (v:=?_) (a':=?_) #[true,true,true,true,true,true,true,true,true,true,true,true,true,true,true,true,false,false,false,false,false,false,false,false,false] rfl rfl (zAN HT_.out (by kernel_rfl)) (fun _ _ _ h=>h) (Or.inl ⟨by rfl,?_⟩) ?_ ?_
  rotate_left
  ·intro w'
   go_simp
   with_reducible rfl
  rotate_left
  ·simp only [Act.put,List.setIfInBounds_toArray,List.set_cons_zero,List.set_cons_succ,zAO,zAR]
   rfl
  refine zAa (i:=16) (N:=some 29) (v:=undef) (a':=?_) #[true,true,true,true,true,true,true,true,true,true,true,true,true,true,true,true,true,false,false,false,false,false,false,false,false] rfl rfl (zAN HT_.out (by kernel_rfl)) (fun _ _ _ h=>h) (Or.inr ⟨by rfl,rfl⟩) ?_ ?_
  rotate_left
  ·simp only [Act.put,List.setIfInBounds_toArray,List.set_cons_zero,List.set_cons_succ,zAO,zAR]
   rfl
  refine zAa (i:=17) (N:=some 30) (v:=undef) (a':=?_) #[true,true,true,true,true,true,true,true,true,true,true,true,true,true,true,true,true,true,false,false,false,false,false,false,false] rfl rfl (zAN HT_.out (by kernel_rfl)) (fun _ _ _ h=>h) (Or.inr ⟨by rfl,rfl⟩) ?_ ?_
  rotate_left
  ·simp only [Act.put,List.setIfInBounds_toArray,List.set_cons_zero,List.set_cons_succ,zAO,zAR]
   rfl
  refine zAa (i:=18) (N:=some 31) (v:=undef) (a':=?_) #[true,true,true,true,true,true,true,true,true,true,true,true,true,true,true,true,true,true,true,false,false,false,false,false,false] rfl rfl (zAN HT_.out (by kernel_rfl)) (fun _ _ _ h=>h) (Or.inr ⟨by rfl,rfl⟩) ?_ ?_
  rotate_left
  ·simp only [Act.put,List.setIfInBounds_toArray,List.set_cons_zero,List.set_cons_succ,zAO,zAR]
   rfl
  refine zAa (i:=19) (N:=some 32) (v:=?_) (a':=?_) #[true,true,true,true,true,true,true,true,true,true,true,true,true,true,true,true,true,true,true,true,false,false,false,false,false] rfl rfl (zAN HT_.out (by kernel_rfl)) (fun _ _ _ h=>h) (Or.inl ⟨by rfl,?_⟩) ?_ ?_
  rotate_left
  ·intro w'
   go_simp
   with_reducible rfl
  rotate_left
  ·simp only [Act.put,List.setIfInBounds_toArray,List.set_cons_zero,List.set_cons_succ,zAO,zAR]
   rfl
  refine zAa (i:=20) (N:=some 33) (v:=?_) (a':=?_) #[true,true,true,true,true,true,true,true,true,true,true,true,true,true,true,true,true,true,true,true,true,false,false,false,false] rfl rfl (zAN HT_.out (by kernel_rfl)) (fun _ _ _ h=>h) (Or.inl ⟨by rfl,?_⟩) ?_ ?_
  rotate_left
  ·intro w'
   go_simp
   with_reducible rfl
  rotate_left
  ·simp only [Act.put,List.setIfInBounds_toArray,List.set_cons_zero,List.set_cons_succ,zAO,zAR]
   rfl
  refine zAa (i:=21) (N:=some 34) (v:=undef) (a':=?_) #[true,true,true,true,true,true,true,true,true,true,true,true,true,true,true,true,true,true,true,true,true,true,false,false,false] rfl rfl (zAN HT_.out (by kernel_rfl)) (fun _ _ _ h=>h) (Or.inr ⟨by rfl,rfl⟩) ?_ ?_
  rotate_left
  ·simp only [Act.put,List.setIfInBounds_toArray,List.set_cons_zero,List.set_cons_succ,zAO,zAR]
   rfl
  refine zAa (i:=22) (N:=some 35) (v:=undef) (a':=?_) #[true,true,true,true,true,true,true,true,true,true,true,true,true,true,true,true,true,true,true,true,true,true,true,false,false] rfl rfl (zAN HT_.out (by kernel_rfl)) (fun _ _ _ h=>h) (Or.inr ⟨by rfl,rfl⟩) ?_ ?_
  rotate_left
  ·simp only [Act.put,List.setIfInBounds_toArray,List.set_cons_zero,List.set_cons_succ,zAO,zAR]
   rfl
  refine zAa (i:=23) (N:=some 36) (v:=?_) (a':=?_) #[true,true,true,true,true,true,true,true,true,true,true,true,true,true,true,true,true,true,true,true,true,true,true,true,false] rfl rfl (zAN HT_.out (by kernel_rfl)) (fun _ _ _ h=>h) (Or.inl ⟨by rfl,?_⟩) ?_ ?_
  rotate_left
  ·intro w'
   go_simp
   with_reducible rfl
  rotate_left
  ·simp only [Act.put,List.setIfInBounds_toArray,List.set_cons_zero,List.set_cons_succ,zAO,zAR]
   rfl
  refine zAa (i:=24) (N:=some 0) (v:=?_) (a':=?_) #[true,true,true,true,true,true,true,true,true,true,true,true,true,true,true,true,true,true,true,true,true,true,true,true,true] rfl rfl (zAN HT_.out (by kernel_rfl)) (fun _ _ _ h=>h) (Or.inl ⟨by rfl,?_⟩) ?_ ?_
  rotate_left
  ·intro w'
   go_simp
   with_reducible rfl
  rotate_left
  ·simp only [Act.put,List.setIfInBounds_toArray,List.set_cons_zero,List.set_cons_succ,zAO,zAR]
   rfl
  refine done_ (done_of HT_.out (by kernel_rfl)) ?_
  try go_wp2
  go_ret
  exact ⟨by first|rfl|(simp [zAP,zAQ] <;> rfl)|(simp [*,zAP,zAQ] <;> rfl),aI_ HB.out GE239.out⟩
 rw [if_pos c7] at H
 have c7b0:(t240 == 1230)=true:=beq_iff_eq.mpr c7
 have c7b1:(t240 != 1230)=false:=bne_eq_false_iff_eq.mpr c7
 clear c7
 replace H:=Option.bind_eq_some_iff.mp H
 obtain ⟨⟨t244,t245⟩,A80,H⟩:=H
 replace H:((deci_Text.f k t244 t245).bind fun t246=>(if t246.toList=([45,49,53]:List UInt8) then ((deci_Money.f k (-5)).bind fun t247=>(some (t247.toList == ([45,48,46,48,53]:List UInt8)))) else (some false)))=some r:=H
 have A8:=aK_ A80
 clear A80
 replace H:=Option.bind_eq_some_iff.mp H
 obtain ⟨t246,A90,H⟩:=H
 replace H:(if t246.toList=([45,49,53]:List UInt8) then ((deci_Money.f k (-5)).bind fun t247=>(some (t247.toList == ([45,48,46,48,53]:List UInt8)))) else (some false))=some r:=H
 have A9:=aK_ A90
 clear A90
 by_cases c10:t246.toList=([45,49,53]:List UInt8)
 rotate_left
 ·rw [if_neg c10] at H
  have c10b0:(t246.toList == ([45,49,53]:List UInt8))=false:=beq_eq_false_iff_ne.mpr c10
  have c10b1:(t246.toList != ([45,49,53]:List UInt8))=true:=bne_iff_ne.mpr c10
  obtain rfl:=Option.some.inj H
  go_enter Tryz.func4,Tryz.ntmps4
  try go_wp2_with (first|((with_reducible refine zAM (f:=9) rfl ?_);refine goesL_ (some 6) rfl rfl Tryz.func9 (by kernel_rfl) rfl #[.string (⟨#[45,49,53]⟩:ByteArray)] rfl aM_ ?_;(with_reducible refine (zAb.calls k (⟨#[45,49,53]⟩:ByteArray) t236 t237 t238 _ A1.out).mono ?_);rintro e w21 ⟨rfl,hb⟩;refine ⟨_,rfl,?_⟩;have n0_:=aK_ (zAE (aH_ HB.out) hb);clear HB;have HB:=n0_;clear n0_;(try clear hb);(try clear hb2);(try clear hk);(try clear hi))|((with_reducible refine zAc (N:=1) rfl ?_);refine zAX ?hg (N:=1) ?hd (cs:=#[.int .i64 0,.int .u64 0]) (t:=32) ?hr ?_;(case hd=>rfl);(case hg=>rfl);(case hr=>first|(go_simp;done)|(go_simp;rfl));intro gb239 hg w22 hbox hb;have n0_:=aK_ (zAE (aH_ HB.out) hb);have n1_:=aK_ (hbox);have n2_:=aK_ ((by rw [hg];exact (zAF (aH_ HB.out)):w.heap.size≤gb239));have n3_:=aK_ ((by rw [hg];exact (zAF (aH_ HB.out)):w.heap.size≤gb239));clear HB;have HB:=n0_;have BK239:=n1_;have GW239:=n2_;have GE239:=n3_;clear n0_ n1_ n2_ n3_;clear hb hbox hg;have hcz23_0:w22.cell? ⟨gb239,0,none⟩=some (.int .i64 0):=(zAB BK239.out 0).trans rfl;have hcz23_1:w22.cell? ⟨gb239,1,none⟩=some (.int .u64 0):=(zAB BK239.out 1).trans rfl;have hfz23_0:=zAA BK239.out 0;have hfz23_1:=zAA BK239.out 1)|((with_reducible refine zAM (f:=7) rfl ?_);refine goesL_ (some 10) rfl rfl Tryz.func7 (by kernel_rfl) rfl #[.string (⟨#[49,50,46,51,48]⟩:ByteArray)] rfl aM_ ?_;(with_reducible refine (deci_Coins.calls (⟨#[49,50,46,51,48]⟩:ByteArray) t240 t241 _ ?side1 A2.out).mono ?_);(case side1=>(first|(with_reducible exact hG)|((repeat (with_reducible first|exact hG|apply GW.drewN|apply GW.drew|apply GW.alloc));done)|exact GW.below hG (aI_ HB.out GE239.out)));rintro e w24 ⟨rfl,hb⟩;refine ⟨_,rfl,?_⟩;have n0_:=aK_ (zAC (g:=gb239) (o:=.cells #[.int .i64 t236,.int .u64 t237] 32 (0,0)) (by refine aB_ ?_;refine zAW (cs:=#[.int .i64 t236,.int .u64 0]) ?_ 1 _ rfl;refine aB_ ?_;refine zAW (cs:=#[.int .i64 0,.int .u64 0]) ?_ 0 _ rfl;refine aB_ ?_;exact BK239.out) hb);have n1_:=aK_ (zAE (aI_ HB.out GE239.out) hb);clear BK239;clear HB;have BK239:=n0_;have HB:=n1_;clear n0_ n1_;(try clear hb);(try clear hb2);(try clear hk);(try clear hi)))
  have n0_:=aK_ (blk_drew BK239.out)
  have n1_:=aK_ (below_drew1 HB.out)
  clear BK239
  clear HB
  have BK239:=n0_
  have HB:=n1_
  clear n0_ n1_
  refine start_ (n:=25) (S:=fun w'=>w'.cell? ⟨gb239,0,none⟩=some (.int .i64 t236)∧w'.cell? ⟨gb239,1,none⟩=some (.int .u64 t237)) (ds:=[]) #[false,false,false,false,false,false,false,false,false,false,false,false,false,false,false,false,false,false,false,false,false,false,false,false,false] (by kernel_rfl) rfl rfl ⟨(zAB BK239.out 0).trans rfl,(zAB BK239.out 1).trans rfl⟩ (fun hHeld=>?_);refine with_tabW zAY.tab3 zAY.bits3 (fun HT_ HW_=>?_)
  generalize w24.drew=w25 at BK239 HB hHeld ⊢
  refine zAa (i:=0) (N:=some 13) (v:=?_) (a':=?_) #[true,false,false,false,false,false,false,false,false,false,false,false,false,false,false,false,false,false,false,false,false,false,false,false,false] rfl rfl (zAN HT_.out (by kernel_rfl)) (fun _ _ _ h=>h) (Or.inl ⟨by rfl,?_⟩) ?_ ?_
  rotate_left
  ·intro w'
   go_simp
   with_reducible rfl
  rotate_left
  ·simp only [Act.put,List.setIfInBounds_toArray,List.set_cons_zero,List.set_cons_succ,zAO,zAR]
   rfl
  refine zAa (i:=1) (N:=some 14) (v:=?_) (a':=?_) #[true,true,false,false,false,false,false,false,false,false,false,false,false,false,false,false,false,false,false,false,false,false,false,false,false] rfl rfl (zAN HT_.out (by kernel_rfl)) (fun _ _ _ h=>h) (Or.inl ⟨by rfl,?_⟩) ?_ ?_
  rotate_left
  ·intro w'
   go_simp
   with_reducible rfl
  rotate_left
  ·simp only [Act.put,List.setIfInBounds_toArray,List.set_cons_zero,List.set_cons_succ,zAO,zAR]
   rfl
  refine zAa (i:=2) (N:=some 15) (v:=?_) (a':=?_) #[true,true,true,false,false,false,false,false,false,false,false,false,false,false,false,false,false,false,false,false,false,false,false,false,false] rfl rfl (zAN HT_.out (by kernel_rfl)) (fun _ _ _ h=>h) (Or.inl ⟨by rfl,?_⟩) ?_ ?_
  rotate_left
  ·intro w'
   go_simp
   with_reducible rfl
  rotate_left
  ·simp only [Act.put,List.setIfInBounds_toArray,List.set_cons_zero,List.set_cons_succ,zAO,zAR]
   rfl
  refine zAa (i:=3) (N:=some 16) (v:=?_) (a':=?_) #[true,true,true,true,false,false,false,false,false,false,false,false,false,false,false,false,false,false,false,false,false,false,false,false,false] rfl rfl (zAN HT_.out (by kernel_rfl)) (fun _ _ _ h=>h) (Or.inl ⟨by rfl,?_⟩) ?_ ?_
  rotate_left
  ·intro w'
   go_simp
   with_reducible rfl
  rotate_left
  ·simp only [Act.put,List.setIfInBounds_toArray,List.set_cons_zero,List.set_cons_succ,zAO,zAR]
   rfl
  refine zAa (i:=4) (N:=some 17) (v:=?_) (a':=?_) #[true,true,true,true,true,false,false,false,false,false,false,false,false,false,false,false,false,false,false,false,false,false,false,false,false] rfl rfl (zAN HT_.out (by kernel_rfl)) (fun _ _ _ h=>h) (Or.inl ⟨by rfl,?_⟩) ?_ ?_
  rotate_left
  ·intro w'
   go_simp
   with_reducible rfl
  rotate_left
  ·simp only [Act.put,List.setIfInBounds_toArray,List.set_cons_zero,List.set_cons_succ,zAO,zAR]
   rfl
  refine zAa (i:=5) (N:=some 18) (v:=?_) (a':=?_) #[true,true,true,true,true,true,false,false,false,false,false,false,false,false,false,false,false,false,false,false,false,false,false,false,false] rfl rfl (zAN HT_.out (by kernel_rfl)) (fun _ _ _ h=>h) (Or.inl ⟨by rfl,?_⟩) ?_ ?_
  rotate_left
  ·intro w'
   go_simp
   with_reducible rfl
  rotate_left
  ·simp only [Act.put,List.setIfInBounds_toArray,List.set_cons_zero,List.set_cons_succ,zAO,zAR]
   rfl
  refine zAa (i:=6) (N:=some 19) (v:=?_) (a':=?_) #[true,true,true,true,true,true,true,false,false,false,false,false,false,false,false,false,false,false,false,false,false,false,false,false,false] rfl rfl (zAN HT_.out (by kernel_rfl)) (fun _ _ _ h=>h) (Or.inl ⟨by rfl,?_⟩) ?_ ?_
  rotate_left
  ·intro w'
   go_simp
   with_reducible rfl
  rotate_left
  ·simp only [Act.put,List.setIfInBounds_toArray,List.set_cons_zero,List.set_cons_succ,zAO,zAR]
   rfl
  refine take_ (i:=7) (N:=some 20) (v:=?_) (a':=?_) #[true,true,true,true,true,true,true,true,false,false,false,false,false,false,false,false,false,false,false,false,false,false,false,false,false] rfl rfl (take_ofW HT_.out HW_.out (by kernel_rfl)) (fun _ _ _ h=>h) (Or.inl ⟨by rfl,?_⟩) hHeld ?_ ?_
  rotate_left
  ·rintro w' ⟨s0,s1⟩
   go_simp
   with_reducible rfl
  rotate_left
  ·simp only [Act.put,List.setIfInBounds_toArray,List.set_cons_zero,List.set_cons_succ,zAO,zAR]
   rfl
  refine one_ (i:=8) (N:=some 21) #[true,true,true,true,true,true,true,true,true,false,false,false,false,false,false,false,false,false,false,false,false,false,false,false,false] rfl rfl (one_of HT_.out (by kernel_rfl)) (by decide) (fun K hK=>?_)
  refine goes_ Tryz.func10 (by kernel_rfl) rfl #[.int .i64 (-15)] (by rfl) rfl rfl aM_ ?_
  with_reducible refine (wide_Of.calls (-15) t242 t243 _ A5.out).mono ?_
  rintro e w26 ⟨rfl,hb⟩
  refine ⟨_,rfl,?_⟩
  have n0_:=aK_ (zAC (g:=gb239) (o:=.cells #[.int .i64 t236,.int .u64 t237] 32 (0,0)) (aB_ BK239.out) hb)
  have n1_:=aK_ (zAE (aI_ HB.out GE239.out) hb)
  clear BK239
  clear HB
  have BK239:=n0_
  have HB:=n1_
  clear n0_ n1_
  (try clear hb)
  (try clear hb2)
  (try clear hk)
  (try clear hi)
  refine hK.out _ _ ⟨(zAB BK239.out 0).trans rfl,(zAB BK239.out 1).trans rfl⟩ (fun hHeld=>?_)
  clear hK K
  refine norm_ (a':=?_) ?_ ?_
  rotate_left
  ·show Act.put _ (some 21) _=_
   simp only [Act.put,List.setIfInBounds_toArray,List.set_cons_zero,List.set_cons_succ,zAO,zAR]
   rfl
  refine zAa (i:=9) (N:=some 22) (v:=?_) (a':=?_) #[true,true,true,true,true,true,true,true,true,true,false,false,false,false,false,false,false,false,false,false,false,false,false,false,false] rfl rfl (zAN HT_.out (by kernel_rfl)) (fun _ _ _ h=>h) (Or.inl ⟨by rfl,?_⟩) ?_ ?_
  rotate_left
  ·intro w'
   go_simp
   with_reducible rfl
  rotate_left
  ·simp only [Act.put,List.setIfInBounds_toArray,List.set_cons_zero,List.set_cons_succ,zAO,zAR]
   rfl
  refine zAa (i:=10) (N:=some 23) (v:=?_) (a':=?_) #[true,true,true,true,true,true,true,true,true,true,true,false,false,false,false,false,false,false,false,false,false,false,false,false,false] rfl rfl (zAN HT_.out (by kernel_rfl)) (fun _ _ _ h=>h) (Or.inl ⟨by rfl,?_⟩) ?_ ?_
  rotate_left
  ·intro w'
   go_simp
   with_reducible rfl
  rotate_left
  ·simp only [Act.put,List.setIfInBounds_toArray,List.set_cons_zero,List.set_cons_succ,zAO,zAR]
   rfl
  refine zAa (i:=11) (N:=some 24) (v:=?_) (a':=?_) #[true,true,true,true,true,true,true,true,true,true,true,true,false,false,false,false,false,false,false,false,false,false,false,false,false] rfl rfl (zAN HT_.out (by kernel_rfl)) (fun _ _ _ h=>h) (Or.inl ⟨by rfl,?_⟩) ?_ ?_
  rotate_left
  ·intro w'
   go_simp
   with_reducible rfl
  rotate_left
  ·simp only [Act.put,List.setIfInBounds_toArray,List.set_cons_zero,List.set_cons_succ,zAO,zAR]
   rfl
  refine zAa (i:=12) (N:=some 25) (v:=?_) (a':=?_) #[true,true,true,true,true,true,true,true,true,true,true,true,true,false,false,false,false,false,false,false,false,false,false,false,false] rfl rfl (zAN HT_.out (by kernel_rfl)) (fun _ _ _ h=>h) (Or.inl ⟨by rfl,?_⟩) ?_ ?_
  rotate_left
  ·intro w'
   go_simp
   with_reducible rfl
  rotate_left
  ·simp only [Act.put,List.setIfInBounds_toArray,List.set_cons_zero,List.set_cons_succ,zAO,zAR]
   rfl
  refine zAa (i:=13) (N:=some 26) (v:=?_) (a':=?_) #[true,true,true,true,true,true,true,true,true,true,true,true,true,true,false,false,false,false,false,false,false,false,false,false,false] rfl rfl (zAN HT_.out (by kernel_rfl)) (fun _ _ _ h=>h) (Or.inl ⟨by rfl,?_⟩) ?_ ?_
  rotate_left
  ·intro w'
   go_simp
   with_reducible rfl
  rotate_left
  ·simp only [Act.put,List.setIfInBounds_toArray,List.set_cons_zero,List.set_cons_succ,zAO,zAR]
   rfl
  refine zAa (i:=14) (N:=some 27) (v:=?_) (a':=?_) #[true,true,true,true,true,true,true,true,true,true,true,true,true,true,true,false,false,false,false,false,false,false,false,false,false] rfl rfl (zAN HT_.out (by kernel_rfl)) (fun _ _ _ h=>h) (Or.inl ⟨by rfl,?_⟩) ?_ ?_
  rotate_left
  ·intro w'
   go_simp
   with_reducible rfl
  rotate_left
  ·simp only [Act.put,List.setIfInBounds_toArray,List.set_cons_zero,List.set_cons_succ,zAO,zAR]
   rfl
  refine zAa (i:=15) (N:=some 28) (v:=?_) (a':=?_) #[true,true,true,true,true,true,true,true,true,true,true,true,true,true,true,true,false,false,false,false,false,false,false,false,false] rfl rfl (zAN HT_.out (by kernel_rfl)) (fun _ _ _ h=>h) (Or.inl ⟨by rfl,?_⟩) ?_ ?_
  rotate_left
  ·intro w'
   go_simp
   with_reducible rfl
  rotate_left
  ·simp only [Act.put,List.setIfInBounds_toArray,List.set_cons_zero,List.set_cons_succ,zAO,zAR]
   rfl
  refine one_ (i:=16) (N:=some 29) #[true,true,true,true,true,true,true,true,true,true,true,true,true,true,true,true,true,false,false,false,false,false,false,false,false] rfl rfl (one_of HT_.out (by kernel_rfl)) (by decide) (fun K hK=>?_)
  refine goes_ Tryz.func10 (by kernel_rfl) rfl #[.int .i64 (-15)] (by rfl) rfl rfl aM_ ?_
  with_reducible refine (wide_Of.calls (-15) t244 t245 _ A8.out).mono ?_
  rintro e w27 ⟨rfl,hb⟩
  refine ⟨_,rfl,?_⟩
  have n0_:=aK_ (zAC (g:=gb239) (o:=.cells #[.int .i64 t236,.int .u64 t237] 32 (0,0)) (aB_ BK239.out) hb)
  have n1_:=aK_ (zAE (aI_ HB.out GE239.out) hb)
  clear BK239
  clear HB
  have BK239:=n0_
  have HB:=n1_
  clear n0_ n1_
  (try clear hb)
  (try clear hb2)
  (try clear hk)
  (try clear hi)
  refine hK.out _ _ ⟨(zAB BK239.out 0).trans rfl,(zAB BK239.out 1).trans rfl⟩ (fun hHeld=>?_)
  clear hK K
  refine norm_ (a':=?_) ?_ ?_
  rotate_left
  ·show Act.put _ (some 29) _=_
   simp only [Act.put,List.setIfInBounds_toArray,List.set_cons_zero,List.set_cons_succ,zAO,zAR]
   rfl
  refine one_ (i:=17) (N:=some 30) #[true,true,true,true,true,true,true,true,true,true,true,true,true,true,true,true,true,true,false,false,false,false,false,false,false] rfl rfl (one_of HT_.out (by kernel_rfl)) (by decide) (fun K hK=>?_)
  refine goes_ Tryz.func11 (by kernel_rfl) rfl #[.agg #[.int .i64 t244,.int .u64 t245]] (by rfl) rfl rfl aM_ ?_
  with_reducible refine (deci_Text.calls k t244 t245 t246 _ ?side1 A9.out).mono ?_
  (case side1=>(first|(with_reducible exact hG)|((repeat (with_reducible first|exact hG|apply GW.drewN|apply GW.drew|apply GW.alloc));done)|exact GW.below hG (aI_ HB.out GE239.out)))
  rintro e w28 ⟨rfl,hb⟩
  refine ⟨_,rfl,?_⟩
  have n0_:=aK_ (zAC (g:=gb239) (o:=.cells #[.int .i64 t236,.int .u64 t237] 32 (0,0)) (aB_ BK239.out) hb)
  have n1_:=aK_ (zAE (aI_ HB.out GE239.out) hb)
  clear BK239
  clear HB
  have BK239:=n0_
  have HB:=n1_
  clear n0_ n1_
  (try clear hb)
  (try clear hb2)
  (try clear hk)
  (try clear hi)
  refine hK.out _ _ ⟨(zAB BK239.out 0).trans rfl,(zAB BK239.out 1).trans rfl⟩ (fun hHeld=>?_)
  clear hK K
  refine norm_ (a':=?_) ?_ ?_
  rotate_left
  ·show Act.put _ (some 30) _=_
   simp only [Act.put,List.setIfInBounds_toArray,List.set_cons_zero,List.set_cons_succ,zAO,zAR]
   rfl
  refine zAa (i:=18) (N:=some 31) (v:=?_) (a':=?_) #[true,true,true,true,true,true,true,true,true,true,true,true,true,true,true,true,true,true,true,false,false,false,false,false,false] rfl rfl (zAN HT_.out (by kernel_rfl)) (fun _ _ _ h=>h) (Or.inl ⟨by rfl,?_⟩) ?_ ?_
  rotate_left
  ·intro w'
   go_simp
   with_reducible rfl
  rotate_left
  ·simp only [Act.put,List.setIfInBounds_toArray,List.set_cons_zero,List.set_cons_succ,zAO,zAR]
   rfl
  refine zAa (i:=19) (N:=some 32) (v:=?_) (a':=?_) #[true,true,true,true,true,true,true,true,true,true,true,true,true,true,true,true,true,true,true,true,false,false,false,false,false] rfl rfl (zAN HT_.out (by kernel_rfl)) (fun _ _ _ h=>h) (Or.inl ⟨by rfl,?_⟩) ?_ ?_
  rotate_left
  ·intro w'
   go_simp
   with_reducible rfl
  rotate_left
  ·simp only [Act.put,List.setIfInBounds_toArray,List.set_cons_zero,List.set_cons_succ,zAO,zAR]
   rfl
  refine zAa (i:=20) (N:=some 33) (v:=?_) (a':=?_) #[true,true,true,true,true,true,true,true,true,true,true,true,true,true,true,true,true,true,true,true,true,false,false,false,false] rfl rfl (zAN HT_.out (by kernel_rfl)) (fun _ _ _ h=>h) (Or.inl ⟨by rfl,?_⟩) ?_ ?_
  rotate_left
  ·intro w'
   go_simp
   with_reducible rfl
  rotate_left
  ·simp only [Act.put,List.setIfInBounds_toArray,List.set_cons_zero,List.set_cons_succ,zAO,zAR]
   rfl
  refine zAa (i:=21) (N:=some 34) (v:=undef) (a':=?_) #[true,true,true,true,true,true,true,true,true,true,true,true,true,true,true,true,true,true,true,true,true,true,false,false,false] rfl rfl (zAN HT_.out (by kernel_rfl)) (fun _ _ _ h=>h) (Or.inr ⟨by rfl,rfl⟩) ?_ ?_
  rotate_left
  ·simp only [Act.put,List.setIfInBounds_toArray,List.set_cons_zero,List.set_cons_succ,zAO,zAR]
   rfl
  refine zAa (i:=22) (N:=some 35) (v:=undef) (a':=?_) #[true,true,true,true,true,true,true,true,true,true,true,true,true,true,true,true,true,true,true,true,true,true,true,false,false] rfl rfl (zAN HT_.out (by kernel_rfl)) (fun _ _ _ h=>h) (Or.inr ⟨by rfl,rfl⟩) ?_ ?_
  rotate_left
  ·simp only [Act.put,List.setIfInBounds_toArray,List.set_cons_zero,List.set_cons_succ,zAO,zAR]
   rfl
  refine zAa (i:=23) (N:=some 36) (v:=?_) (a':=?_) #[true,true,true,true,true,true,true,true,true,true,true,true,true,true,true,true,true,true,true,true,true,true,true,true,false] rfl rfl (zAN HT_.out (by kernel_rfl)) (fun _ _ _ h=>h) (Or.inl ⟨by rfl,?_⟩) ?_ ?_
  rotate_left
  ·intro w'
   go_simp
   with_reducible rfl
  rotate_left
  ·simp only [Act.put,List.setIfInBounds_toArray,List.set_cons_zero,List.set_cons_succ,zAO,zAR]
   rfl
  refine zAa (i:=24) (N:=some 0) (v:=?_) (a':=?_) #[true,true,true,true,true,true,true,true,true,true,true,true,true,true,true,true,true,true,true,true,true,true,true,true,true] rfl rfl (zAN HT_.out (by kernel_rfl)) (fun _ _ _ h=>h) (Or.inl ⟨by rfl,?_⟩) ?_ ?_
  rotate_left
  ·intro w'
   go_simp
   with_reducible rfl
  rotate_left
  ·simp only [Act.put,List.setIfInBounds_toArray,List.set_cons_zero,List.set_cons_succ,zAO,zAR]
   rfl
  refine done_ (done_of HT_.out (by kernel_rfl)) ?_
  try go_wp2
  go_ret
  exact ⟨by first|rfl|(simp [zAP,zAQ] <;> rfl)|(simp [*,zAP,zAQ] <;> rfl),aI_ HB.out GE239.out⟩
 rw [if_pos c10] at H
 have c10b0:(t246.toList == ([45,49,53]:List UInt8))=true:=beq_iff_eq.mpr c10
 have c10b1:(t246.toList != ([45,49,53]:List UInt8))=false:=bne_eq_false_iff_eq.mpr c10
 clear c10
 replace H:=Option.bind_eq_some_iff.mp H
 obtain ⟨t247,A110,H⟩:=H
 replace H:(some (t247.toList == ([45,48,46,48,53]:List UInt8)))=some r:=H
 have A11:=aK_ A110
 clear A110
 obtain rfl:=Option.some.inj H
 go_enter Tryz.func4,Tryz.ntmps4
 try go_wp2_with (first|((with_reducible refine zAM (f:=9) rfl ?_);refine goesL_ (some 6) rfl rfl Tryz.func9 (by kernel_rfl) rfl #[.string (⟨#[45,49,53]⟩:ByteArray)] rfl aM_ ?_;(with_reducible refine (zAb.calls k (⟨#[45,49,53]⟩:ByteArray) t236 t237 t238 _ A1.out).mono ?_);rintro e w12 ⟨rfl,hb⟩;refine ⟨_,rfl,?_⟩;have n0_:=aK_ (zAE (aH_ HB.out) hb);clear HB;have HB:=n0_;clear n0_;(try clear hb);(try clear hb2);(try clear hk);(try clear hi))|((with_reducible refine zAc (N:=1) rfl ?_);refine zAX ?hg (N:=1) ?hd (cs:=#[.int .i64 0,.int .u64 0]) (t:=32) ?hr ?_;(case hd=>rfl);(case hg=>rfl);(case hr=>first|(go_simp;done)|(go_simp;rfl));intro gb239 hg w13 hbox hb;have n0_:=aK_ (zAE (aH_ HB.out) hb);have n1_:=aK_ (hbox);have n2_:=aK_ ((by rw [hg];exact (zAF (aH_ HB.out)):w.heap.size≤gb239));have n3_:=aK_ ((by rw [hg];exact (zAF (aH_ HB.out)):w.heap.size≤gb239));clear HB;have HB:=n0_;have BK239:=n1_;have GW239:=n2_;have GE239:=n3_;clear n0_ n1_ n2_ n3_;clear hb hbox hg;have hcz14_0:w13.cell? ⟨gb239,0,none⟩=some (.int .i64 0):=(zAB BK239.out 0).trans rfl;have hcz14_1:w13.cell? ⟨gb239,1,none⟩=some (.int .u64 0):=(zAB BK239.out 1).trans rfl;have hfz14_0:=zAA BK239.out 0;have hfz14_1:=zAA BK239.out 1)|((with_reducible refine zAM (f:=7) rfl ?_);refine goesL_ (some 10) rfl rfl Tryz.func7 (by kernel_rfl) rfl #[.string (⟨#[49,50,46,51,48]⟩:ByteArray)] rfl aM_ ?_;(with_reducible refine (deci_Coins.calls (⟨#[49,50,46,51,48]⟩:ByteArray) t240 t241 _ ?side1 A2.out).mono ?_);(case side1=>(first|(with_reducible exact hG)|((repeat (with_reducible first|exact hG|apply GW.drewN|apply GW.drew|apply GW.alloc));done)|exact GW.below hG (aI_ HB.out GE239.out)));rintro e w15 ⟨rfl,hb⟩;refine ⟨_,rfl,?_⟩;have n0_:=aK_ (zAC (g:=gb239) (o:=.cells #[.int .i64 t236,.int .u64 t237] 32 (0,0)) (by refine aB_ ?_;refine zAW (cs:=#[.int .i64 t236,.int .u64 0]) ?_ 1 _ rfl;refine aB_ ?_;refine zAW (cs:=#[.int .i64 0,.int .u64 0]) ?_ 0 _ rfl;refine aB_ ?_;exact BK239.out) hb);have n1_:=aK_ (zAE (aI_ HB.out GE239.out) hb);clear BK239;clear HB;have BK239:=n0_;have HB:=n1_;clear n0_ n1_;(try clear hb);(try clear hb2);(try clear hk);(try clear hi)))
 have n0_:=aK_ (blk_drew BK239.out)
 have n1_:=aK_ (below_drew1 HB.out)
 clear BK239
 clear HB
 have BK239:=n0_
 have HB:=n1_
 clear n0_ n1_
 refine start_ (n:=25) (S:=fun w'=>w'.cell? ⟨gb239,0,none⟩=some (.int .i64 t236)∧w'.cell? ⟨gb239,1,none⟩=some (.int .u64 t237)) (ds:=[]) #[false,false,false,false,false,false,false,false,false,false,false,false,false,false,false,false,false,false,false,false,false,false,false,false,false] (by kernel_rfl) rfl rfl ⟨(zAB BK239.out 0).trans rfl,(zAB BK239.out 1).trans rfl⟩ (fun hHeld=>?_);refine with_tabW zAY.tab3 zAY.bits3 (fun HT_ HW_=>?_)
 generalize w15.drew=w16 at BK239 HB hHeld ⊢
 refine zAa (i:=0) (N:=some 13) (v:=?_) (a':=?_) #[true,false,false,false,false,false,false,false,false,false,false,false,false,false,false,false,false,false,false,false,false,false,false,false,false] rfl rfl (zAN HT_.out (by kernel_rfl)) (fun _ _ _ h=>h) (Or.inl ⟨by rfl,?_⟩) ?_ ?_
 rotate_left
 ·intro w'
  go_simp
  with_reducible rfl
 rotate_left
 ·simp only [Act.put,List.setIfInBounds_toArray,List.set_cons_zero,List.set_cons_succ,zAO,zAR]
  rfl
 refine zAa (i:=1) (N:=some 14) (v:=?_) (a':=?_) #[true,true,false,false,false,false,false,false,false,false,false,false,false,false,false,false,false,false,false,false,false,false,false,false,false] rfl rfl (zAN HT_.out (by kernel_rfl)) (fun _ _ _ h=>h) (Or.inl ⟨by rfl,?_⟩) ?_ ?_
 rotate_left
 ·intro w'
  go_simp
  with_reducible rfl
 rotate_left
 ·simp only [Act.put,List.setIfInBounds_toArray,List.set_cons_zero,List.set_cons_succ,zAO,zAR]
  rfl
 refine zAa (i:=2) (N:=some 15) (v:=?_) (a':=?_) #[true,true,true,false,false,false,false,false,false,false,false,false,false,false,false,false,false,false,false,false,false,false,false,false,false] rfl rfl (zAN HT_.out (by kernel_rfl)) (fun _ _ _ h=>h) (Or.inl ⟨by rfl,?_⟩) ?_ ?_
 rotate_left
 ·intro w'
  go_simp
  with_reducible rfl
 rotate_left
 ·simp only [Act.put,List.setIfInBounds_toArray,List.set_cons_zero,List.set_cons_succ,zAO,zAR]
  rfl
 refine zAa (i:=3) (N:=some 16) (v:=?_) (a':=?_) #[true,true,true,true,false,false,false,false,false,false,false,false,false,false,false,false,false,false,false,false,false,false,false,false,false] rfl rfl (zAN HT_.out (by kernel_rfl)) (fun _ _ _ h=>h) (Or.inl ⟨by rfl,?_⟩) ?_ ?_
 rotate_left
 ·intro w'
  go_simp
  with_reducible rfl
 rotate_left
 ·simp only [Act.put,List.setIfInBounds_toArray,List.set_cons_zero,List.set_cons_succ,zAO,zAR]
  rfl
 refine zAa (i:=4) (N:=some 17) (v:=?_) (a':=?_) #[true,true,true,true,true,false,false,false,false,false,false,false,false,false,false,false,false,false,false,false,false,false,false,false,false] rfl rfl (zAN HT_.out (by kernel_rfl)) (fun _ _ _ h=>h) (Or.inl ⟨by rfl,?_⟩) ?_ ?_
 rotate_left
 ·intro w'
  go_simp
  with_reducible rfl
 rotate_left
 ·simp only [Act.put,List.setIfInBounds_toArray,List.set_cons_zero,List.set_cons_succ,zAO,zAR]
  rfl
 refine zAa (i:=5) (N:=some 18) (v:=?_) (a':=?_) #[true,true,true,true,true,true,false,false,false,false,false,false,false,false,false,false,false,false,false,false,false,false,false,false,false] rfl rfl (zAN HT_.out (by kernel_rfl)) (fun _ _ _ h=>h) (Or.inl ⟨by rfl,?_⟩) ?_ ?_
 rotate_left
 ·intro w'
  go_simp
  with_reducible rfl
 rotate_left
 ·simp only [Act.put,List.setIfInBounds_toArray,List.set_cons_zero,List.set_cons_succ,zAO,zAR]
  rfl
 refine zAa (i:=6) (N:=some 19) (v:=?_) (a':=?_) #[true,true,true,true,true,true,true,false,false,false,false,false,false,false,false,false,false,false,false,false,false,false,false,false,false] rfl rfl (zAN HT_.out (by kernel_rfl)) (fun _ _ _ h=>h) (Or.inl ⟨by rfl,?_⟩) ?_ ?_
 rotate_left
 ·intro w'
  go_simp
  with_reducible rfl
 rotate_left
 ·simp only [Act.put,List.setIfInBounds_toArray,List.set_cons_zero,List.set_cons_succ,zAO,zAR]
  rfl
 refine take_ (i:=7) (N:=some 20) (v:=?_) (a':=?_) #[true,true,true,true,true,true,true,true,false,false,false,false,false,false,false,false,false,false,false,false,false,false,false,false,false] rfl rfl (take_ofW HT_.out HW_.out (by kernel_rfl)) (fun _ _ _ h=>h) (Or.inl ⟨by rfl,?_⟩) hHeld ?_ ?_
 rotate_left
 ·rintro w' ⟨s0,s1⟩
  go_simp
  with_reducible rfl
 rotate_left
 ·simp only [Act.put,List.setIfInBounds_toArray,List.set_cons_zero,List.set_cons_succ,zAO,zAR]
  rfl
 refine one_ (i:=8) (N:=some 21) #[true,true,true,true,true,true,true,true,true,false,false,false,false,false,false,false,false,false,false,false,false,false,false,false,false] rfl rfl (one_of HT_.out (by kernel_rfl)) (by decide) (fun K hK=>?_)
 refine goes_ Tryz.func10 (by kernel_rfl) rfl #[.int .i64 (-15)] (by rfl) rfl rfl aM_ ?_
 with_reducible refine (wide_Of.calls (-15) t242 t243 _ A5.out).mono ?_
 rintro e w17 ⟨rfl,hb⟩
 refine ⟨_,rfl,?_⟩
 have n0_:=aK_ (zAC (g:=gb239) (o:=.cells #[.int .i64 t236,.int .u64 t237] 32 (0,0)) (aB_ BK239.out) hb)
 have n1_:=aK_ (zAE (aI_ HB.out GE239.out) hb)
 clear BK239
 clear HB
 have BK239:=n0_
 have HB:=n1_
 clear n0_ n1_
 (try clear hb)
 (try clear hb2)
 (try clear hk)
 (try clear hi)
 refine hK.out _ _ ⟨(zAB BK239.out 0).trans rfl,(zAB BK239.out 1).trans rfl⟩ (fun hHeld=>?_)
 clear hK K
 refine norm_ (a':=?_) ?_ ?_
 rotate_left
 ·show Act.put _ (some 21) _=_
  simp only [Act.put,List.setIfInBounds_toArray,List.set_cons_zero,List.set_cons_succ,zAO,zAR]
  rfl
 refine zAa (i:=9) (N:=some 22) (v:=?_) (a':=?_) #[true,true,true,true,true,true,true,true,true,true,false,false,false,false,false,false,false,false,false,false,false,false,false,false,false] rfl rfl (zAN HT_.out (by kernel_rfl)) (fun _ _ _ h=>h) (Or.inl ⟨by rfl,?_⟩) ?_ ?_
 rotate_left
 ·intro w'
  go_simp
  with_reducible rfl
 rotate_left
 ·simp only [Act.put,List.setIfInBounds_toArray,List.set_cons_zero,List.set_cons_succ,zAO,zAR]
  rfl
 refine zAa (i:=10) (N:=some 23) (v:=?_) (a':=?_) #[true,true,true,true,true,true,true,true,true,true,true,false,false,false,false,false,false,false,false,false,false,false,false,false,false] rfl rfl (zAN HT_.out (by kernel_rfl)) (fun _ _ _ h=>h) (Or.inl ⟨by rfl,?_⟩) ?_ ?_
 rotate_left
 ·intro w'
  go_simp
  with_reducible rfl
 rotate_left
 ·simp only [Act.put,List.setIfInBounds_toArray,List.set_cons_zero,List.set_cons_succ,zAO,zAR]
  rfl
 refine zAa (i:=11) (N:=some 24) (v:=?_) (a':=?_) #[true,true,true,true,true,true,true,true,true,true,true,true,false,false,false,false,false,false,false,false,false,false,false,false,false] rfl rfl (zAN HT_.out (by kernel_rfl)) (fun _ _ _ h=>h) (Or.inl ⟨by rfl,?_⟩) ?_ ?_
 rotate_left
 ·intro w'
  go_simp
  with_reducible rfl
 rotate_left
 ·simp only [Act.put,List.setIfInBounds_toArray,List.set_cons_zero,List.set_cons_succ,zAO,zAR]
  rfl
 refine zAa (i:=12) (N:=some 25) (v:=?_) (a':=?_) #[true,true,true,true,true,true,true,true,true,true,true,true,true,false,false,false,false,false,false,false,false,false,false,false,false] rfl rfl (zAN HT_.out (by kernel_rfl)) (fun _ _ _ h=>h) (Or.inl ⟨by rfl,?_⟩) ?_ ?_
 rotate_left
 ·intro w'
  go_simp
  with_reducible rfl
 rotate_left
 ·simp only [Act.put,List.setIfInBounds_toArray,List.set_cons_zero,List.set_cons_succ,zAO,zAR]
  rfl
 refine zAa (i:=13) (N:=some 26) (v:=?_) (a':=?_) #[true,true,true,true,true,true,true,true,true,true,true,true,true,true,false,false,false,false,false,false,false,false,false,false,false] rfl rfl (zAN HT_.out (by kernel_rfl)) (fun _ _ _ h=>h) (Or.inl ⟨by rfl,?_⟩) ?_ ?_
 rotate_left
 ·intro w'
  go_simp
  with_reducible rfl
 rotate_left
 ·simp only [Act.put,List.setIfInBounds_toArray,List.set_cons_zero,List.set_cons_succ,zAO,zAR]
  rfl
 refine zAa (i:=14) (N:=some 27) (v:=?_) (a':=?_) #[true,true,true,true,true,true,true,true,true,true,true,true,true,true,true,false,false,false,false,false,false,false,false,false,false] rfl rfl (zAN HT_.out (by kernel_rfl)) (fun _ _ _ h=>h) (Or.inl ⟨by rfl,?_⟩) ?_ ?_
 rotate_left
 ·intro w'
  go_simp
  with_reducible rfl
 rotate_left
 ·simp only [Act.put,List.setIfInBounds_toArray,List.set_cons_zero,List.set_cons_succ,zAO,zAR]
  rfl
 refine zAa (i:=15) (N:=some 28) (v:=?_) (a':=?_) #[true,true,true,true,true,true,true,true,true,true,true,true,true,true,true,true,false,false,false,false,false,false,false,false,false] rfl rfl (zAN HT_.out (by kernel_rfl)) (fun _ _ _ h=>h) (Or.inl ⟨by rfl,?_⟩) ?_ ?_
 rotate_left
 ·intro w'
  go_simp
  with_reducible rfl
 rotate_left
 ·simp only [Act.put,List.setIfInBounds_toArray,List.set_cons_zero,List.set_cons_succ,zAO,zAR]
  rfl
 refine one_ (i:=16) (N:=some 29) #[true,true,true,true,true,true,true,true,true,true,true,true,true,true,true,true,true,false,false,false,false,false,false,false,false] rfl rfl (one_of HT_.out (by kernel_rfl)) (by decide) (fun K hK=>?_)
 refine goes_ Tryz.func10 (by kernel_rfl) rfl #[.int .i64 (-15)] (by rfl) rfl rfl aM_ ?_
 with_reducible refine (wide_Of.calls (-15) t244 t245 _ A8.out).mono ?_
 rintro e w18 ⟨rfl,hb⟩
 refine ⟨_,rfl,?_⟩
 have n0_:=aK_ (zAC (g:=gb239) (o:=.cells #[.int .i64 t236,.int .u64 t237] 32 (0,0)) (aB_ BK239.out) hb)
 have n1_:=aK_ (zAE (aI_ HB.out GE239.out) hb)
 clear BK239
 clear HB
 have BK239:=n0_
 have HB:=n1_
 clear n0_ n1_
 (try clear hb)
 (try clear hb2)
 (try clear hk)
 (try clear hi)
 refine hK.out _ _ ⟨(zAB BK239.out 0).trans rfl,(zAB BK239.out 1).trans rfl⟩ (fun hHeld=>?_)
 clear hK K
 refine norm_ (a':=?_) ?_ ?_
 rotate_left
 ·show Act.put _ (some 29) _=_
  simp only [Act.put,List.setIfInBounds_toArray,List.set_cons_zero,List.set_cons_succ,zAO,zAR]
  rfl
 refine one_ (i:=17) (N:=some 30) #[true,true,true,true,true,true,true,true,true,true,true,true,true,true,true,true,true,true,false,false,false,false,false,false,false] rfl rfl (one_of HT_.out (by kernel_rfl)) (by decide) (fun K hK=>?_)
 refine goes_ Tryz.func11 (by kernel_rfl) rfl #[.agg #[.int .i64 t244,.int .u64 t245]] (by rfl) rfl rfl aM_ ?_
 with_reducible refine (deci_Text.calls k t244 t245 t246 _ ?side1 A9.out).mono ?_
 (case side1=>(first|(with_reducible exact hG)|((repeat (with_reducible first|exact hG|apply GW.drewN|apply GW.drew|apply GW.alloc));done)|exact GW.below hG (aI_ HB.out GE239.out)))
 rintro e w19 ⟨rfl,hb⟩
 refine ⟨_,rfl,?_⟩
 have n0_:=aK_ (zAC (g:=gb239) (o:=.cells #[.int .i64 t236,.int .u64 t237] 32 (0,0)) (aB_ BK239.out) hb)
 have n1_:=aK_ (zAE (aI_ HB.out GE239.out) hb)
 clear BK239
 clear HB
 have BK239:=n0_
 have HB:=n1_
 clear n0_ n1_
 (try clear hb)
 (try clear hb2)
 (try clear hk)
 (try clear hi)
 refine hK.out _ _ ⟨(zAB BK239.out 0).trans rfl,(zAB BK239.out 1).trans rfl⟩ (fun hHeld=>?_)
 clear hK K
 refine norm_ (a':=?_) ?_ ?_
 rotate_left
 ·show Act.put _ (some 30) _=_
  simp only [Act.put,List.setIfInBounds_toArray,List.set_cons_zero,List.set_cons_succ,zAO,zAR]
  rfl
 refine zAa (i:=18) (N:=some 31) (v:=?_) (a':=?_) #[true,true,true,true,true,true,true,true,true,true,true,true,true,true,true,true,true,true,true,false,false,false,false,false,false] rfl rfl (zAN HT_.out (by kernel_rfl)) (fun _ _ _ h=>h) (Or.inl ⟨by rfl,?_⟩) ?_ ?_
 rotate_left
 ·intro w'
  go_simp
  with_reducible rfl
 rotate_left
 ·simp only [Act.put,List.setIfInBounds_toArray,List.set_cons_zero,List.set_cons_succ,zAO,zAR]
  rfl
 refine zAa (i:=19) (N:=some 32) (v:=?_) (a':=?_) #[true,true,true,true,true,true,true,true,true,true,true,true,true,true,true,true,true,true,true,true,false,false,false,false,false] rfl rfl (zAN HT_.out (by kernel_rfl)) (fun _ _ _ h=>h) (Or.inl ⟨by rfl,?_⟩) ?_ ?_
 rotate_left
 ·intro w'
  go_simp
  with_reducible rfl
 rotate_left
 ·simp only [Act.put,List.setIfInBounds_toArray,List.set_cons_zero,List.set_cons_succ,zAO,zAR]
  rfl
 refine zAa (i:=20) (N:=some 33) (v:=?_) (a':=?_) #[true,true,true,true,true,true,true,true,true,true,true,true,true,true,true,true,true,true,true,true,true,false,false,false,false] rfl rfl (zAN HT_.out (by kernel_rfl)) (fun _ _ _ h=>h) (Or.inl ⟨by rfl,?_⟩) ?_ ?_
 rotate_left
 ·intro w'
  go_simp
  with_reducible rfl
 rotate_left
 ·simp only [Act.put,List.setIfInBounds_toArray,List.set_cons_zero,List.set_cons_succ,zAO,zAR]
  rfl
 refine one_ (i:=21) (N:=some 34) #[true,true,true,true,true,true,true,true,true,true,true,true,true,true,true,true,true,true,true,true,true,true,false,false,false] rfl rfl (one_of HT_.out (by kernel_rfl)) (by decide) (fun K hK=>?_)
 refine goes_ Tryz.func5 (by kernel_rfl) rfl #[.int .i64 (-5)] (by rfl) rfl rfl aM_ ?_
 with_reducible refine (deci_Money.calls k (-5) t247 _ ?side1 A11.out).mono ?_
 (case side1=>(first|(with_reducible exact hG)|((repeat (with_reducible first|exact hG|apply GW.drewN|apply GW.drew|apply GW.alloc));done)|exact GW.below hG (aI_ HB.out GE239.out)))
 rintro e w20 ⟨rfl,hb⟩
 refine ⟨_,rfl,?_⟩
 have n0_:=aK_ (zAC (g:=gb239) (o:=.cells #[.int .i64 t236,.int .u64 t237] 32 (0,0)) (aB_ BK239.out) hb)
 have n1_:=aK_ (zAE (aI_ HB.out GE239.out) hb)
 clear BK239
 clear HB
 have BK239:=n0_
 have HB:=n1_
 clear n0_ n1_
 (try clear hb)
 (try clear hb2)
 (try clear hk)
 (try clear hi)
 refine hK.out _ _ ⟨(zAB BK239.out 0).trans rfl,(zAB BK239.out 1).trans rfl⟩ (fun hHeld=>?_)
 clear hK K
 refine norm_ (a':=?_) ?_ ?_
 rotate_left
 ·show Act.put _ (some 34) _=_
  simp only [Act.put,List.setIfInBounds_toArray,List.set_cons_zero,List.set_cons_succ,zAO,zAR]
  rfl
 refine zAa (i:=22) (N:=some 35) (v:=?_) (a':=?_) #[true,true,true,true,true,true,true,true,true,true,true,true,true,true,true,true,true,true,true,true,true,true,true,false,false] rfl rfl (zAN HT_.out (by kernel_rfl)) (fun _ _ _ h=>h) (Or.inl ⟨by rfl,?_⟩) ?_ ?_
 rotate_left
 ·intro w'
  go_simp
  with_reducible rfl
 rotate_left
 ·simp only [Act.put,List.setIfInBounds_toArray,List.set_cons_zero,List.set_cons_succ,zAO,zAR]
  rfl
 refine zAa (i:=23) (N:=some 36) (v:=?_) (a':=?_) #[true,true,true,true,true,true,true,true,true,true,true,true,true,true,true,true,true,true,true,true,true,true,true,true,false] rfl rfl (zAN HT_.out (by kernel_rfl)) (fun _ _ _ h=>h) (Or.inl ⟨by rfl,?_⟩) ?_ ?_
 rotate_left
 ·intro w'
  go_simp
  with_reducible rfl
 rotate_left
 ·simp only [Act.put,List.setIfInBounds_toArray,List.set_cons_zero,List.set_cons_succ,zAO,zAR]
  rfl
 refine zAa (i:=24) (N:=some 0) (v:=?_) (a':=?_) #[true,true,true,true,true,true,true,true,true,true,true,true,true,true,true,true,true,true,true,true,true,true,true,true,true] rfl rfl (zAN HT_.out (by kernel_rfl)) (fun _ _ _ h=>h) (Or.inl ⟨by rfl,?_⟩) ?_ ?_
 rotate_left
 ·intro w'
  go_simp
  with_reducible rfl
 rotate_left
 ·simp only [Act.put,List.setIfInBounds_toArray,List.set_cons_zero,List.set_cons_succ,zAO,zAR]
  rfl
 refine done_ (done_of HT_.out (by kernel_rfl)) ?_
 try go_wp2
 go_ret
 exact ⟨by first|rfl|(simp [zAP,zAQ] <;> rfl)|(simp [*,zAP,zAQ] <;> rfl),aI_ HB.out GE239.out⟩
end Go.Proofs.YtkikekiokclmdaaGreatDoor.S

namespace Go.Proofs.YtkikekiokclmdaaGreatDoor.S
open Go.RowKit Go.Proofs.YtkikekiokclmdaaGreatDoorW.PrintWords Go.Proofs.YtkikekiokclmdaaGreatDoorW.PrintLast Go.Proofs.YtkikekiokclmdaaGreatDoorW.PrintMore
attribute [local go_sem] max2_int min2_int max_two min_two max_three min_three max_four min_four
mutual
def zAJ.l0:Nat→List Int→List ByteArray→Int→Option (Bool)
 |0,_,_,_=>none
 |k+1,x0,x1,x5=>if x5<(x0.length:Int) then (if 0≤x5 then ((deci_Money.f k (rd x0 x5)).bind fun t311=>((zAf.f k (rd x0 x5)).bind fun t313=>(if t311.toList=t313.toList then (zAJ.l0 k x0 x1 (wrap64 (x5+1))) else (some false)))) else (none)) else (zAJ.l1 k x1 0)
def zAJ.l1:Nat→List ByteArray→Int→Option (Bool)
 |0,_,_=>none
 |k+1,x1,x6=>if x6<(x1.length:Int) then (if 0≤x6 then ((deci_Coins.f (rdOf ByteArray.empty x1 x6)).bind fun bt315=>((zAD.f k (rdOf ByteArray.empty x1 x6)).bind fun bt318=>(if bt315.1=bt318.1 then (if bt315.2=bt318.2 then (zAJ.l1 k x1 (wrap64 (x6+1))) else (some false)) else (some false)))) else (none)) else (some true)
end
def zAJ.f (k:Nat) (l0:List Int) (l1:List ByteArray):Option (Bool):=(zAY.f k).bind fun t309=>(if t309=true then (zAJ.l0 k l0 l1 0) else (some false))
theorem zAJ.mono_l:∀ k,(∀ y0 y1 y2,LeO (zAJ.l0 k y0 y1 y2) (zAJ.l0 (k+1) y0 y1 y2))∧(∀ y0 y1,LeO (zAJ.l1 k y0 y1) (zAJ.l1 (k+1) y0 y1))
 |0=>⟨fun _ _ _ r h=>by simp [zAJ.l0] at h,fun _ _ r h=>by simp [zAJ.l1] at h⟩
 |k+1=>by
  obtain ⟨ih0,ih1⟩:=zAJ.mono_l k
  refine ⟨?_,?_⟩
  ·intro y0 y1 y2
   unfold zAJ.l0
   repeat' first
   |(with_reducible exact ih0 _ _ _)
   |(with_reducible exact ih1 _ _)
   |(with_reducible exact deci_Money.mono _ _)
   |(with_reducible exact zAY.mono _)
   |(with_reducible exact zAD.mono _ _)
   |(with_reducible exact zAf.mono _ _)
   |(with_reducible exact LeO.refl _)
   |(with_reducible exact LeO.none _)
   |(with_reducible refine LeO.ite ?_ ?_)
   |(with_reducible refine LeO.bind ?_ (fun _=>?_))
   |exact ih0 _ _ _
   |exact ih1 _ _
   |exact deci_Money.mono _ _
   |exact zAY.mono _
   |exact zAD.mono _ _
   |exact zAf.mono _ _
   |exact LeO.none _
   |refine LeO.ite ?_ ?_
   |refine LeO.bind ?_ (fun _=>?_)
  ·intro y0 y1
   unfold zAJ.l1
   repeat' first
   |(with_reducible exact ih0 _ _ _)
   |(with_reducible exact ih1 _ _)
   |(with_reducible exact deci_Money.mono _ _)
   |(with_reducible exact zAY.mono _)
   |(with_reducible exact zAD.mono _ _)
   |(with_reducible exact zAf.mono _ _)
   |(with_reducible exact LeO.refl _)
   |(with_reducible exact LeO.none _)
   |(with_reducible refine LeO.ite ?_ ?_)
   |(with_reducible refine LeO.bind ?_ (fun _=>?_))
   |exact ih0 _ _ _
   |exact ih1 _ _
   |exact deci_Money.mono _ _
   |exact zAY.mono _
   |exact zAD.mono _ _
   |exact zAf.mono _ _
   |exact LeO.none _
   |refine LeO.ite ?_ ?_
   |refine LeO.bind ?_ (fun _=>?_)
theorem zAJ.mono:∀ a0 a1 k,LeO (zAJ.f k a0 a1) (zAJ.f (k+1) a0 a1):=by
 intro a0 a1 k
 obtain ⟨ih0,ih1⟩:=zAJ.mono_l k
 unfold zAJ.f
 repeat' first
   |(with_reducible exact ih0 _ _ _)
   |(with_reducible exact ih1 _ _)
   |(with_reducible exact deci_Money.mono _ _)
   |(with_reducible exact zAY.mono _)
   |(with_reducible exact zAD.mono _ _)
   |(with_reducible exact zAf.mono _ _)
   |(with_reducible exact LeO.refl _)
   |(with_reducible exact LeO.none _)
   |(with_reducible refine LeO.ite ?_ ?_)
   |(with_reducible refine LeO.bind ?_ (fun _=>?_))
   |exact ih0 _ _ _
   |exact ih1 _ _
   |exact deci_Money.mono _ _
   |exact zAY.mono _
   |exact zAD.mono _ _
   |exact zAf.mono _ _
   |exact LeO.none _
   |refine LeO.ite ?_ ?_
   |refine LeO.bind ?_ (fun _=>?_)
def zAJ.T6:Bool × List (List Nat × List Nat):=(true,[([],[]),([],[]),([0,1],[0,1]),([2],[2]),([3],[3]),([],[]),([],[]),([5,6],[5,6]),([7],[7]),([8,4],[8]),([4,9],[4,9])])
def zAJ.B6:List Nat:=[0,0,3,7,15,0,0,96,224,511,1023]
theorem zAJ.tab6:rtab .any (opsOf Tryz.f3 6)=zAJ.T6:=by kernel_rfl
theorem zAJ.bits6:waitsOk zAJ.T6.2 zAJ.B6=true:=by kernel_rfl
set_option maxHeartbeats 8000000 in
set_option maxRecDepth 100000 in
theorem zAJ.calls (k:Nat) (A0:Option Addr) (c0:Nat) (l0:List Int) (A1:Option Addr) (c1:Nat) (l1:List ByteArray) (r:Bool) (w:World) (hG:GW w) (hr0:Kd.C (Kd.int .i64) w A0 l0.length l0) (hc0:l0.length≤c0) (hr1:Kd.C Kd.string w A1 l1.length l1) (hc1:l1.length≤c1) (h:zAJ.f k l0 l1=some r) :
  Calls Tryz.prog 3 #[.slice A0 l0.length c0,.slice A1 l1.length c1] w fun e w'=>e = .returned (.bool r)∧Below w.heap.size w w':=by
 have HR0:=aK_ hr0
 have HC0:=aK_ hc0
 clear hr0 hc0
 have HR1:=aK_ hr1
 have HC1:=aK_ hc1
 clear hr1 hc1
 have HB:=aK_ (Below.refl w.heap.size w)
 have H:((zAY.f k).bind fun t309=>(if t309=true then (zAJ.l0 k l0 l1 0) else (some false)))=some r:=h
 clear h
 replace H:=Option.bind_eq_some_iff.mp H
 obtain ⟨t309,A30,H⟩:=H
 replace H:(if t309=true then (zAJ.l0 k l0 l1 0) else (some false))=some r:=H
 have A3:=aK_ A30
 clear A30
 by_cases c4:t309=true
 rotate_left
 ·replace c4:=Bool.eq_false_iff.mpr c4
  subst c4
  have H1:(some false)=some r:=by rw [if_neg (show ¬ (false=true) by decide)] at H;exact H
  clear H
  have H:=H1
  clear H1
  obtain rfl:=Option.some.inj H
  go_enter Tryz.func3,Tryz.ntmps3
  go_wp2_with (first|((with_reducible refine zAM (f:=4) rfl ?_);refine goesL_ (some 11) rfl rfl Tryz.func4 (by kernel_rfl) rfl #[] rfl aM_ ?_;(with_reducible refine (zAY.calls k  false _ ?side1 A3.out).mono ?_);(case side1=>(first|(with_reducible exact hG)|((repeat (with_reducible first|exact hG|apply GW.drewN|apply GW.drew|apply GW.alloc));done)|exact GW.below hG (aH_ HB.out)));rintro e w26 ⟨rfl,hb⟩;refine ⟨_,rfl,?_⟩;have n0_:=aK_ (zAE (aH_ HB.out) hb);clear HB;have HB:=n0_;clear n0_;(try clear hb);(try clear hb2);(try clear hk);(try clear hi)))
  go_ret
  exact ⟨by first|rfl|(simp [zAP,zAQ] <;> rfl)|(simp [*,zAP,zAQ] <;> rfl),aH_ HB.out⟩
 subst c4
 have H1:(zAJ.l0 k l0 l1 0)=some r:=by rw [if_pos rfl] at H;exact H
 clear H
 have H:=H1
 clear H1
 have H':=aK_ H
 clear H
 go_enter Tryz.func3,Tryz.ntmps3
 go_wp2_with (first|((with_reducible refine zAM (f:=4) rfl ?_);refine goesL_ (some 11) rfl rfl Tryz.func4 (by kernel_rfl) rfl #[] rfl aM_ ?_;(with_reducible refine (zAY.calls k  true _ ?side1 A3.out).mono ?_);(case side1=>(first|(with_reducible exact hG)|((repeat (with_reducible first|exact hG|apply GW.drewN|apply GW.drew|apply GW.alloc));done)|exact GW.below hG (aH_ HB.out)));rintro e w5 ⟨rfl,hb⟩;refine ⟨_,rfl,?_⟩;have n0_:=aK_ (zAE (aH_ HB.out) hb);clear HB;have HB:=n0_;clear n0_;(try clear hb);(try clear hb2);(try clear hk);(try clear hi)))
 (try simp only [Act.put,List.setIfInBounds_toArray,List.set_cons_zero,List.set_cons_succ])
 go_loopg [5] k (fun kq v5 w'=>∃ (x5_1:Int),v5 = .int .i64 x5_1∧zAG (zAJ.l0 kq l0 l1 x5_1=some r)∧zAG (kq≤k)∧zAG (Below w.heap.size w w'))
 case atStart=>exact ⟨(0),aS2_,H',⟨Nat.le_refl _⟩,⟨aH_ HB.out⟩⟩
 clear H'
 try clear c1
 try clear p2
 try clear c3
 try clear c4
 obtain ⟨x5_1,rfl,HA,HK1,HB⟩:=hrel
 cases gk with
 |zero=>exact absurd HA.out (by simp [zAJ.l0])
 |succ k1=>?_
 have H:=HA.out
 clear HA
 simp only [zAJ.l0] at H
 by_cases c6:x5_1<(l0.length:Int)
 rotate_left
 ·rw [if_neg c6] at H
  have c6b0:decide (x5_1<(l0.length:Int))=false:=decide_eq_false c6
  clear c6
  have H':=aK_ H
  clear H
  go_wp2
  (try simp only [Act.put,List.setIfInBounds_toArray,List.set_cons_zero,List.set_cons_succ])
  go_loopg [6] k1 (fun kq v6 w'=>∃ (x6_2:Int),v6 = .int .i64 x6_2∧zAG (zAJ.l1 kq l1 x6_2=some r)∧zAG (kq≤k1)∧zAG (Below w.heap.size w w'))
  case atStart=>exact ⟨(0),aS2_,H',⟨Nat.le_refl _⟩,⟨aH_ HB.out⟩⟩
  clear H'
  try clear c1
  try clear p2
  try clear c3
  try clear p3
  try clear q3
  try clear hx3
  try clear c4
  try clear c5
  try clear c6
  try clear c6b0
  try clear p6
  try clear c7
  try clear c7b0
  try clear c10
  try clear c10b0
  try clear c10b1
  try clear hx310_0
  try clear hx312_0
  try clear p2
  try clear p310
  try clear p312
  try clear q310
  try clear q312
  obtain ⟨x6_2,rfl,HA,HK2,HB⟩:=hrel
  cases gk with
  |zero=>exact absurd HA.out (by simp [zAJ.l1])
  |succ k2=>?_
  have H:=HA.out
  clear HA
  simp only [zAJ.l1] at H
  by_cases c17:x6_2<(l1.length:Int)
  rotate_left
  ·rw [if_neg c17] at H
   have c17b0:decide (x6_2<(l1.length:Int))=false:=decide_eq_false c17
   clear c17
   obtain rfl:=Option.some.inj H
   go_wp2
   go_ret
   exact ⟨by first|rfl|(simp [zAP,zAQ] <;> rfl)|(simp [*,zAP,zAQ] <;> rfl),aH_ HB.out⟩
  rw [if_pos c17] at H
  have c17b0:decide (x6_2<(l1.length:Int))=true:=decide_eq_true c17
  clear c17
  have c18:=yes_ H
  rw [if_pos c18] at H
  have c18b0:decide (0≤x6_2)=true:=decide_eq_true c18
  clear c18
  replace H:=Option.bind_eq_some_iff.mp H
  obtain ⟨⟨t315,t316⟩,A190,H⟩:=H
  replace H:((zAD.f k2 (rdOf ByteArray.empty l1 x6_2)).bind fun bt318=>(if t315=bt318.1 then (if t316=bt318.2 then (zAJ.l1 k2 l1 (wrap64 (x6_2+1))) else (some false)) else (some false)))=some r:=H
  have A19:=aK_ A190
  clear A190
  replace H:=Option.bind_eq_some_iff.mp H
  obtain ⟨⟨t318,t319⟩,A200,H⟩:=H
  replace H:(if t315=t318 then (if t316=t319 then (zAJ.l1 k2 l1 (wrap64 (x6_2+1))) else (some false)) else (some false))=some r:=H
  have A20:=aK_ A200
  clear A200
  by_cases c21:t315=t318
  rotate_left
  ·rw [if_neg c21] at H
   have c21b0:(t315 == t318)=false:=beq_eq_false_iff_ne.mpr c21
   have c21b1:(t315 != t318)=true:=bne_iff_ne.mpr c21
   obtain rfl:=Option.some.inj H
   have p314:0≤(x6_2:Int):=aD_
   have q314:x6_2<(l1.length:Int):=aD_
   obtain ⟨ad314,e314,hx314_0⟩:=Kd.at_string HR1.out x6_2 p314 q314
   cases e314
   replace hx314_0:=(HB.out.cell (World.block_lt_of_cell? w _ hx314_0)).trans hx314_0
   replace p314:=eq_true p314
   replace q314:=eq_true q314
   go_wp2_with (first|((with_reducible refine zAM (f:=7) rfl ?_);refine goesL_ (some 41) rfl rfl Tryz.func7 (by kernel_rfl) rfl #[.string (rdOf ByteArray.empty l1 x6_2)] rfl aM_ ?_;(with_reducible refine (deci_Coins.calls (rdOf ByteArray.empty l1 x6_2) t315 t316 _ ?side1 A19.out).mono ?_);(case side1=>(first|(with_reducible exact hG)|((repeat (with_reducible first|exact hG|apply GW.drewN|apply GW.drew|apply GW.alloc));done)|exact GW.below hG (aH_ HB.out)));rintro e w25 ⟨rfl,hb⟩;refine ⟨_,rfl,?_⟩;have n0_:=aK_ (zAE (aH_ HB.out) hb);clear HB;have HB:=n0_;clear n0_;(try clear hb);(try clear hb2);(try clear hk);(try clear hi);have p317:0≤(x6_2:Int):=aD_;have q317:x6_2<(l1.length:Int):=aD_;obtain ⟨ad317,e317,hx317_0⟩:=Kd.at_string HR1.out x6_2 p317 q317;obtain rfl:ad314=ad317:=(by injection e317);replace hx317_0:=(HB.out.cell (World.block_lt_of_cell? w _ hx317_0)).trans hx317_0;replace p317:=eq_true p317;replace q317:=eq_true q317)|((with_reducible refine zAM (f:=8) rfl ?_);refine goesL_ (some 49) rfl rfl Tryz.func8 (by kernel_rfl) rfl #[.string (rdOf ByteArray.empty l1 x6_2)] rfl aM_ ?_;(with_reducible refine (zAD.calls k2 (rdOf ByteArray.empty l1 x6_2) t318 t319 _ A20.out).mono ?_);rintro e w' ⟨rfl,⟨nd,rfl⟩⟩;refine ⟨_,rfl,?_⟩))
   go_ret
   exact ⟨by first|rfl|(simp [zAP,zAQ] <;> rfl)|(simp [*,zAP,zAQ] <;> rfl),aH_ HB.out⟩
  rw [if_pos c21] at H
  have c21b0:(t315 == t318)=true:=beq_iff_eq.mpr c21
  have c21b1:(t315 != t318)=false:=bne_eq_false_iff_eq.mpr c21
  clear c21
  by_cases c22:t316=t319
  rotate_left
  ·rw [if_neg c22] at H
   have c22b0:(t316 == t319)=false:=beq_eq_false_iff_ne.mpr c22
   have c22b1:(t316 != t319)=true:=bne_iff_ne.mpr c22
   obtain rfl:=Option.some.inj H
   have p314:0≤(x6_2:Int):=aD_
   have q314:x6_2<(l1.length:Int):=aD_
   obtain ⟨ad314,e314,hx314_0⟩:=Kd.at_string HR1.out x6_2 p314 q314
   cases e314
   replace hx314_0:=(HB.out.cell (World.block_lt_of_cell? w _ hx314_0)).trans hx314_0
   replace p314:=eq_true p314
   replace q314:=eq_true q314
   go_wp2_with (first|((with_reducible refine zAM (f:=7) rfl ?_);refine goesL_ (some 41) rfl rfl Tryz.func7 (by kernel_rfl) rfl #[.string (rdOf ByteArray.empty l1 x6_2)] rfl aM_ ?_;(with_reducible refine (deci_Coins.calls (rdOf ByteArray.empty l1 x6_2) t315 t316 _ ?side1 A19.out).mono ?_);(case side1=>(first|(with_reducible exact hG)|((repeat (with_reducible first|exact hG|apply GW.drewN|apply GW.drew|apply GW.alloc));done)|exact GW.below hG (aH_ HB.out)));rintro e w24 ⟨rfl,hb⟩;refine ⟨_,rfl,?_⟩;have n0_:=aK_ (zAE (aH_ HB.out) hb);clear HB;have HB:=n0_;clear n0_;(try clear hb);(try clear hb2);(try clear hk);(try clear hi);have p317:0≤(x6_2:Int):=aD_;have q317:x6_2<(l1.length:Int):=aD_;obtain ⟨ad317,e317,hx317_0⟩:=Kd.at_string HR1.out x6_2 p317 q317;obtain rfl:ad314=ad317:=(by injection e317);replace hx317_0:=(HB.out.cell (World.block_lt_of_cell? w _ hx317_0)).trans hx317_0;replace p317:=eq_true p317;replace q317:=eq_true q317)|((with_reducible refine zAM (f:=8) rfl ?_);refine goesL_ (some 49) rfl rfl Tryz.func8 (by kernel_rfl) rfl #[.string (rdOf ByteArray.empty l1 x6_2)] rfl aM_ ?_;(with_reducible refine (zAD.calls k2 (rdOf ByteArray.empty l1 x6_2) t318 t319 _ A20.out).mono ?_);rintro e w' ⟨rfl,⟨nd,rfl⟩⟩;refine ⟨_,rfl,?_⟩))
   go_ret
   exact ⟨by first|rfl|(simp [zAP,zAQ] <;> rfl)|(simp [*,zAP,zAQ] <;> rfl),aH_ HB.out⟩
  rw [if_pos c22] at H
  have c22b0:(t316 == t319)=true:=beq_iff_eq.mpr c22
  have c22b1:(t316 != t319)=false:=bne_eq_false_iff_eq.mpr c22
  clear c22
  have H':=aK_ H
  clear H
  have p314:0≤(x6_2:Int):=aD_
  have q314:x6_2<(l1.length:Int):=aD_
  obtain ⟨ad314,e314,hx314_0⟩:=Kd.at_string HR1.out x6_2 p314 q314
  cases e314
  replace hx314_0:=(HB.out.cell (World.block_lt_of_cell? w _ hx314_0)).trans hx314_0
  replace p314:=eq_true p314
  replace q314:=eq_true q314
  go_wp2_with (first|((with_reducible refine zAM (f:=7) rfl ?_);refine goesL_ (some 41) rfl rfl Tryz.func7 (by kernel_rfl) rfl #[.string (rdOf ByteArray.empty l1 x6_2)] rfl aM_ ?_;(with_reducible refine (deci_Coins.calls (rdOf ByteArray.empty l1 x6_2) t315 t316 _ ?side1 A19.out).mono ?_);(case side1=>(first|(with_reducible exact hG)|((repeat (with_reducible first|exact hG|apply GW.drewN|apply GW.drew|apply GW.alloc));done)|exact GW.below hG (aH_ HB.out)));rintro e w23 ⟨rfl,hb⟩;refine ⟨_,rfl,?_⟩;have n0_:=aK_ (zAE (aH_ HB.out) hb);clear HB;have HB:=n0_;clear n0_;(try clear hb);(try clear hb2);(try clear hk);(try clear hi);have p317:0≤(x6_2:Int):=aD_;have q317:x6_2<(l1.length:Int):=aD_;obtain ⟨ad317,e317,hx317_0⟩:=Kd.at_string HR1.out x6_2 p317 q317;obtain rfl:ad314=ad317:=(by injection e317);replace hx317_0:=(HB.out.cell (World.block_lt_of_cell? w _ hx317_0)).trans hx317_0;replace p317:=eq_true p317;replace q317:=eq_true q317)|((with_reducible refine zAM (f:=8) rfl ?_);refine goesL_ (some 49) rfl rfl Tryz.func8 (by kernel_rfl) rfl #[.string (rdOf ByteArray.empty l1 x6_2)] rfl aM_ ?_;(with_reducible refine (zAD.calls k2 (rdOf ByteArray.empty l1 x6_2) t318 t319 _ A20.out).mono ?_);rintro e w' ⟨rfl,⟨nd,rfl⟩⟩;refine ⟨_,rfl,?_⟩))
  go_roundg k2
  case measure=>have:=HK1.out;have:=HK2.out;omega
  case rel=>exact ⟨(wrap64 (x6_2+1)),aS2_,H',⟨by have:=HK1.out;have:=HK2.out;omega⟩,⟨aH_ HB.out⟩⟩
 rw [if_pos c6] at H
 have c6b0:decide (x5_1<(l0.length:Int))=true:=decide_eq_true c6
 clear c6
 have c7:=yes_ H
 rw [if_pos c7] at H
 have c7b0:decide (0≤x5_1)=true:=decide_eq_true c7
 clear c7
 replace H:=Option.bind_eq_some_iff.mp H
 obtain ⟨t311,A80,H⟩:=H
 replace H:((zAf.f k1 (rd l0 x5_1)).bind fun t313=>(if t311.toList=t313.toList then (zAJ.l0 k1 l0 l1 (wrap64 (x5_1+1))) else (some false)))=some r:=H
 have A8:=aK_ A80
 clear A80
 replace H:=Option.bind_eq_some_iff.mp H
 obtain ⟨t313,A90,H⟩:=H
 replace H:(if t311.toList=t313.toList then (zAJ.l0 k1 l0 l1 (wrap64 (x5_1+1))) else (some false))=some r:=H
 have A9:=aK_ A90
 clear A90
 by_cases c10:t311.toList=t313.toList
 rotate_left
 ·rw [if_neg c10] at H
  have c10b0:(t311.toList == t313.toList)=false:=beq_eq_false_iff_ne.mpr c10
  have c10b1:(t311.toList != t313.toList)=true:=bne_iff_ne.mpr c10
  obtain rfl:=Option.some.inj H
  try go_wp2
  have n0_:=aK_ (below_drew1 HB.out)
  clear HB
  have HB:=n0_
  clear n0_
  have p310:0≤(x5_1:Int):=aD_
  have q310:x5_1<(l0.length:Int):=aD_
  obtain ⟨ad310,e310,hx310_0⟩:=Kd.at_int HR0.out x5_1 p310 q310
  have hw310_0:=hx310_0
  cases e310
  replace hx310_0:=(HB.out.cell (World.block_lt_of_cell? w _ hx310_0)).trans hx310_0
  replace p310:=eq_true p310
  replace q310:=eq_true q310
  have p312:0≤(x5_1:Int):=aD_
  have q312:x5_1<(l0.length:Int):=aD_
  obtain ⟨ad312,e312,hx312_0⟩:=Kd.at_int HR0.out x5_1 p312 q312
  have hw312_0:=hx312_0
  obtain rfl:ad310=ad312:=(by injection e312)
  replace hx312_0:=(HB.out.cell (World.block_lt_of_cell? w _ hx312_0)).trans hx312_0
  replace p312:=eq_true p312
  replace q312:=eq_true q312
  refine start_ (n:=11) (S:=fun w'=>w'.cell? (ad310.add (x5_1).toNat)=some (.int .i64 (rd l0 x5_1))∧w'.cell? (ad310.add (x5_1).toNat)=some (.int .i64 (rd l0 x5_1))) (ds:=[]) #[false,false,false,false,false,false,false,false,false,false,false] (by kernel_rfl) rfl rfl ⟨((HB.out.cell (World.block_lt_of_cell? w _ hw310_0)).trans hw310_0),((HB.out.cell (World.block_lt_of_cell? w _ hw312_0)).trans hw312_0)⟩ (fun hHeld=>?_);refine with_tabW zAJ.tab6 zAJ.bits6 (fun HT_ HW_=>?_)
  generalize wr.drew=w14 at HB hx310_0 hx312_0 hHeld ⊢
  refine zAa (i:=0) (N:=some 19) (v:=?_) (a':=?_) #[true,false,false,false,false,false,false,false,false,false,false] rfl rfl (zAN HT_.out (by kernel_rfl)) (fun _ _ _ h=>h) (Or.inl ⟨by rfl,?_⟩) ?_ ?_
  rotate_left
  ·intro w'
   go_simp
   with_reducible rfl
  rotate_left
  ·simp only [Act.put,List.setIfInBounds_toArray,List.set_cons_zero,List.set_cons_succ,zAO,zAR]
   rfl
  refine zAa (i:=1) (N:=some 20) (v:=?_) (a':=?_) #[true,true,false,false,false,false,false,false,false,false,false] rfl rfl (zAN HT_.out (by kernel_rfl)) (fun _ _ _ h=>h) (Or.inl ⟨by rfl,?_⟩) ?_ ?_
  rotate_left
  ·intro w'
   go_simp
   with_reducible rfl
  rotate_left
  ·simp only [Act.put,List.setIfInBounds_toArray,List.set_cons_zero,List.set_cons_succ,zAO,zAR]
   rfl
  refine zAa (i:=2) (N:=some 21) (v:=?_) (a':=?_) #[true,true,true,false,false,false,false,false,false,false,false] rfl rfl (zAN HT_.out (by kernel_rfl)) (fun _ _ _ h=>h) (Or.inl ⟨by rfl,?_⟩) ?_ ?_
  rotate_left
  ·intro w'
   go_simp
   with_reducible rfl
  rotate_left
  ·simp only [Act.put,List.setIfInBounds_toArray,List.set_cons_zero,List.set_cons_succ,zAO,zAR]
   rfl
  refine zAa (i:=5) (N:=some 24) (v:=?_) (a':=?_) #[true,true,true,false,false,true,false,false,false,false,false] rfl rfl (zAN HT_.out (by kernel_rfl)) (fun _ _ _ h=>h) (Or.inl ⟨by rfl,?_⟩) ?_ ?_
  rotate_left
  ·intro w'
   go_simp
   with_reducible rfl
  rotate_left
  ·simp only [Act.put,List.setIfInBounds_toArray,List.set_cons_zero,List.set_cons_succ,zAO,zAR]
   rfl
  refine zAa (i:=6) (N:=some 25) (v:=?_) (a':=?_) #[true,true,true,false,false,true,true,false,false,false,false] rfl rfl (zAN HT_.out (by kernel_rfl)) (fun _ _ _ h=>h) (Or.inl ⟨by rfl,?_⟩) ?_ ?_
  rotate_left
  ·intro w'
   go_simp
   with_reducible rfl
  rotate_left
  ·simp only [Act.put,List.setIfInBounds_toArray,List.set_cons_zero,List.set_cons_succ,zAO,zAR]
   rfl
  refine zAa (i:=7) (N:=some 26) (v:=?_) (a':=?_) #[true,true,true,false,false,true,true,true,false,false,false] rfl rfl (zAN HT_.out (by kernel_rfl)) (fun _ _ _ h=>h) (Or.inl ⟨by rfl,?_⟩) ?_ ?_
  rotate_left
  ·intro w'
   go_simp
   with_reducible rfl
  rotate_left
  ·simp only [Act.put,List.setIfInBounds_toArray,List.set_cons_zero,List.set_cons_succ,zAO,zAR]
   rfl
  refine take_ (i:=3) (N:=some 22) (v:=?_) (a':=?_) #[true,true,true,true,false,true,true,true,false,false,false] rfl rfl (take_ofW HT_.out HW_.out (by kernel_rfl)) (fun _ _ _ h=>h) (Or.inl ⟨by rfl,?_⟩) hHeld ?_ ?_
  rotate_left
  ·rintro w' ⟨s0,s1⟩
   go_simp
   with_reducible rfl
  rotate_left
  ·simp only [Act.put,List.setIfInBounds_toArray,List.set_cons_zero,List.set_cons_succ,zAO,zAR]
   rfl
  refine take_ (i:=8) (N:=some 27) (v:=?_) (a':=?_) #[true,true,true,true,false,true,true,true,true,false,false] rfl rfl (take_ofW HT_.out HW_.out (by kernel_rfl)) (fun _ _ _ h=>h) (Or.inl ⟨by rfl,?_⟩) hHeld ?_ ?_
  rotate_left
  ·rintro w' ⟨s0,s1⟩
   go_simp
   with_reducible rfl
  rotate_left
  ·simp only [Act.put,List.setIfInBounds_toArray,List.set_cons_zero,List.set_cons_succ,zAO,zAR]
   rfl
  refine one_ (i:=4) (N:=some 23) #[true,true,true,true,true,true,true,true,true,false,false] rfl rfl (one_of HT_.out (by kernel_rfl)) (by decide) (fun K hK=>?_)
  refine goes_ Tryz.func5 (by kernel_rfl) rfl #[.int .i64 (rd l0 x5_1)] (by rfl) rfl rfl aM_ ?_
  with_reducible refine (deci_Money.calls k1 (rd l0 x5_1) t311 _ ?side1 A8.out).mono ?_
  (case side1=>(first|(with_reducible exact hG)|((repeat (with_reducible first|exact hG|apply GW.drewN|apply GW.drew|apply GW.alloc));done)|exact GW.below hG (aH_ HB.out)))
  rintro e w15 ⟨rfl,hb⟩
  refine ⟨_,rfl,?_⟩
  have n0_:=aK_ (zAE (aH_ HB.out) hb)
  clear HB
  have HB:=n0_
  clear n0_
  (try clear hb)
  (try clear hb2)
  (try clear hk)
  (try clear hi)
  refine hK.out _ _ ⟨((HB.out.cell (World.block_lt_of_cell? w _ hw310_0)).trans hw310_0),((HB.out.cell (World.block_lt_of_cell? w _ hw312_0)).trans hw312_0)⟩ (fun hHeld=>?_)
  clear hK K
  refine norm_ (a':=?_) ?_ ?_
  rotate_left
  ·show Act.put _ (some 23) _=_
   simp only [Act.put,List.setIfInBounds_toArray,List.set_cons_zero,List.set_cons_succ,zAO,zAR]
   rfl
  refine one_ (i:=9) (N:=some 28) #[true,true,true,true,true,true,true,true,true,true,false] rfl rfl (one_of HT_.out (by kernel_rfl)) (by decide) (fun K hK=>?_)
  refine goes_ Tryz.func6 (by kernel_rfl) rfl #[.int .i64 (rd l0 x5_1)] (by rfl) rfl rfl aM_ ?_
  with_reducible refine (zAf.calls k1 (rd l0 x5_1) t313 _ A9.out).mono ?_
  rintro e w16 ⟨rfl,hb⟩
  refine ⟨_,rfl,?_⟩
  have n0_:=aK_ (zAE (aH_ HB.out) hb)
  clear HB
  have HB:=n0_
  clear n0_
  (try clear hb)
  (try clear hb2)
  (try clear hk)
  (try clear hi)
  refine hK.out _ _ ⟨((HB.out.cell (World.block_lt_of_cell? w _ hw310_0)).trans hw310_0),((HB.out.cell (World.block_lt_of_cell? w _ hw312_0)).trans hw312_0)⟩ (fun hHeld=>?_)
  clear hK K
  refine norm_ (a':=?_) ?_ ?_
  rotate_left
  ·show Act.put _ (some 28) _=_
   simp only [Act.put,List.setIfInBounds_toArray,List.set_cons_zero,List.set_cons_succ,zAO,zAR]
   rfl
  refine zAa (i:=10) (N:=some 29) (v:=?_) (a':=?_) #[true,true,true,true,true,true,true,true,true,true,true] rfl rfl (zAN HT_.out (by kernel_rfl)) (fun _ _ _ h=>h) (Or.inl ⟨by rfl,?_⟩) ?_ ?_
  rotate_left
  ·intro w'
   go_simp
   with_reducible rfl
  rotate_left
  ·simp only [Act.put,List.setIfInBounds_toArray,List.set_cons_zero,List.set_cons_succ,zAO,zAR]
   rfl
  refine done_ (done_of HT_.out (by kernel_rfl)) ?_
  try go_wp2
  go_ret
  exact ⟨by first|rfl|(simp [zAP,zAQ] <;> rfl)|(simp [*,zAP,zAQ] <;> rfl),aH_ HB.out⟩
 rw [if_pos c10] at H
 have c10b0:(t311.toList == t313.toList)=true:=beq_iff_eq.mpr c10
 have c10b1:(t311.toList != t313.toList)=false:=bne_eq_false_iff_eq.mpr c10
 clear c10
 have H':=aK_ H
 clear H
 try go_wp2
 have n0_:=aK_ (below_drew1 HB.out)
 clear HB
 have HB:=n0_
 clear n0_
 have p310:0≤(x5_1:Int):=aD_
 have q310:x5_1<(l0.length:Int):=aD_
 obtain ⟨ad310,e310,hx310_0⟩:=Kd.at_int HR0.out x5_1 p310 q310
 have hw310_0:=hx310_0
 cases e310
 replace hx310_0:=(HB.out.cell (World.block_lt_of_cell? w _ hx310_0)).trans hx310_0
 replace p310:=eq_true p310
 replace q310:=eq_true q310
 have p312:0≤(x5_1:Int):=aD_
 have q312:x5_1<(l0.length:Int):=aD_
 obtain ⟨ad312,e312,hx312_0⟩:=Kd.at_int HR0.out x5_1 p312 q312
 have hw312_0:=hx312_0
 obtain rfl:ad310=ad312:=(by injection e312)
 replace hx312_0:=(HB.out.cell (World.block_lt_of_cell? w _ hx312_0)).trans hx312_0
 replace p312:=eq_true p312
 replace q312:=eq_true q312
 refine start_ (n:=11) (S:=fun w'=>w'.cell? (ad310.add (x5_1).toNat)=some (.int .i64 (rd l0 x5_1))∧w'.cell? (ad310.add (x5_1).toNat)=some (.int .i64 (rd l0 x5_1))) (ds:=[]) #[false,false,false,false,false,false,false,false,false,false,false] (by kernel_rfl) rfl rfl ⟨((HB.out.cell (World.block_lt_of_cell? w _ hw310_0)).trans hw310_0),((HB.out.cell (World.block_lt_of_cell? w _ hw312_0)).trans hw312_0)⟩ (fun hHeld=>?_);refine with_tabW zAJ.tab6 zAJ.bits6 (fun HT_ HW_=>?_)
 generalize wr.drew=w11 at HB hx310_0 hx312_0 hHeld ⊢
 refine zAa (i:=0) (N:=some 19) (v:=?_) (a':=?_) #[true,false,false,false,false,false,false,false,false,false,false] rfl rfl (zAN HT_.out (by kernel_rfl)) (fun _ _ _ h=>h) (Or.inl ⟨by rfl,?_⟩) ?_ ?_
 rotate_left
 ·intro w'
  go_simp
  with_reducible rfl
 rotate_left
 ·simp only [Act.put,List.setIfInBounds_toArray,List.set_cons_zero,List.set_cons_succ,zAO,zAR]
  rfl
 refine zAa (i:=1) (N:=some 20) (v:=?_) (a':=?_) #[true,true,false,false,false,false,false,false,false,false,false] rfl rfl (zAN HT_.out (by kernel_rfl)) (fun _ _ _ h=>h) (Or.inl ⟨by rfl,?_⟩) ?_ ?_
 rotate_left
 ·intro w'
  go_simp
  with_reducible rfl
 rotate_left
 ·simp only [Act.put,List.setIfInBounds_toArray,List.set_cons_zero,List.set_cons_succ,zAO,zAR]
  rfl
 refine zAa (i:=2) (N:=some 21) (v:=?_) (a':=?_) #[true,true,true,false,false,false,false,false,false,false,false] rfl rfl (zAN HT_.out (by kernel_rfl)) (fun _ _ _ h=>h) (Or.inl ⟨by rfl,?_⟩) ?_ ?_
 rotate_left
 ·intro w'
  go_simp
  with_reducible rfl
 rotate_left
 ·simp only [Act.put,List.setIfInBounds_toArray,List.set_cons_zero,List.set_cons_succ,zAO,zAR]
  rfl
 refine zAa (i:=5) (N:=some 24) (v:=?_) (a':=?_) #[true,true,true,false,false,true,false,false,false,false,false] rfl rfl (zAN HT_.out (by kernel_rfl)) (fun _ _ _ h=>h) (Or.inl ⟨by rfl,?_⟩) ?_ ?_
 rotate_left
 ·intro w'
  go_simp
  with_reducible rfl
 rotate_left
 ·simp only [Act.put,List.setIfInBounds_toArray,List.set_cons_zero,List.set_cons_succ,zAO,zAR]
  rfl
 refine zAa (i:=6) (N:=some 25) (v:=?_) (a':=?_) #[true,true,true,false,false,true,true,false,false,false,false] rfl rfl (zAN HT_.out (by kernel_rfl)) (fun _ _ _ h=>h) (Or.inl ⟨by rfl,?_⟩) ?_ ?_
 rotate_left
 ·intro w'
  go_simp
  with_reducible rfl
 rotate_left
 ·simp only [Act.put,List.setIfInBounds_toArray,List.set_cons_zero,List.set_cons_succ,zAO,zAR]
  rfl
 refine zAa (i:=7) (N:=some 26) (v:=?_) (a':=?_) #[true,true,true,false,false,true,true,true,false,false,false] rfl rfl (zAN HT_.out (by kernel_rfl)) (fun _ _ _ h=>h) (Or.inl ⟨by rfl,?_⟩) ?_ ?_
 rotate_left
 ·intro w'
  go_simp
  with_reducible rfl
 rotate_left
 ·simp only [Act.put,List.setIfInBounds_toArray,List.set_cons_zero,List.set_cons_succ,zAO,zAR]
  rfl
 refine take_ (i:=3) (N:=some 22) (v:=?_) (a':=?_) #[true,true,true,true,false,true,true,true,false,false,false] rfl rfl (take_ofW HT_.out HW_.out (by kernel_rfl)) (fun _ _ _ h=>h) (Or.inl ⟨by rfl,?_⟩) hHeld ?_ ?_
 rotate_left
 ·rintro w' ⟨s0,s1⟩
  go_simp
  with_reducible rfl
 rotate_left
 ·simp only [Act.put,List.setIfInBounds_toArray,List.set_cons_zero,List.set_cons_succ,zAO,zAR]
  rfl
 refine take_ (i:=8) (N:=some 27) (v:=?_) (a':=?_) #[true,true,true,true,false,true,true,true,true,false,false] rfl rfl (take_ofW HT_.out HW_.out (by kernel_rfl)) (fun _ _ _ h=>h) (Or.inl ⟨by rfl,?_⟩) hHeld ?_ ?_
 rotate_left
 ·rintro w' ⟨s0,s1⟩
  go_simp
  with_reducible rfl
 rotate_left
 ·simp only [Act.put,List.setIfInBounds_toArray,List.set_cons_zero,List.set_cons_succ,zAO,zAR]
  rfl
 refine one_ (i:=4) (N:=some 23) #[true,true,true,true,true,true,true,true,true,false,false] rfl rfl (one_of HT_.out (by kernel_rfl)) (by decide) (fun K hK=>?_)
 refine goes_ Tryz.func5 (by kernel_rfl) rfl #[.int .i64 (rd l0 x5_1)] (by rfl) rfl rfl aM_ ?_
 with_reducible refine (deci_Money.calls k1 (rd l0 x5_1) t311 _ ?side1 A8.out).mono ?_
 (case side1=>(first|(with_reducible exact hG)|((repeat (with_reducible first|exact hG|apply GW.drewN|apply GW.drew|apply GW.alloc));done)|exact GW.below hG (aH_ HB.out)))
 rintro e w12 ⟨rfl,hb⟩
 refine ⟨_,rfl,?_⟩
 have n0_:=aK_ (zAE (aH_ HB.out) hb)
 clear HB
 have HB:=n0_
 clear n0_
 (try clear hb)
 (try clear hb2)
 (try clear hk)
 (try clear hi)
 refine hK.out _ _ ⟨((HB.out.cell (World.block_lt_of_cell? w _ hw310_0)).trans hw310_0),((HB.out.cell (World.block_lt_of_cell? w _ hw312_0)).trans hw312_0)⟩ (fun hHeld=>?_)
 clear hK K
 refine norm_ (a':=?_) ?_ ?_
 rotate_left
 ·show Act.put _ (some 23) _=_
  simp only [Act.put,List.setIfInBounds_toArray,List.set_cons_zero,List.set_cons_succ,zAO,zAR]
  rfl
 refine one_ (i:=9) (N:=some 28) #[true,true,true,true,true,true,true,true,true,true,false] rfl rfl (one_of HT_.out (by kernel_rfl)) (by decide) (fun K hK=>?_)
 refine goes_ Tryz.func6 (by kernel_rfl) rfl #[.int .i64 (rd l0 x5_1)] (by rfl) rfl rfl aM_ ?_
 with_reducible refine (zAf.calls k1 (rd l0 x5_1) t313 _ A9.out).mono ?_
 rintro e w13 ⟨rfl,hb⟩
 refine ⟨_,rfl,?_⟩
 have n0_:=aK_ (zAE (aH_ HB.out) hb)
 clear HB
 have HB:=n0_
 clear n0_
 (try clear hb)
 (try clear hb2)
 (try clear hk)
 (try clear hi)
 refine hK.out _ _ ⟨((HB.out.cell (World.block_lt_of_cell? w _ hw310_0)).trans hw310_0),((HB.out.cell (World.block_lt_of_cell? w _ hw312_0)).trans hw312_0)⟩ (fun hHeld=>?_)
 clear hK K
 refine norm_ (a':=?_) ?_ ?_
 rotate_left
 ·show Act.put _ (some 28) _=_
  simp only [Act.put,List.setIfInBounds_toArray,List.set_cons_zero,List.set_cons_succ,zAO,zAR]
  rfl
 refine zAa (i:=10) (N:=some 29) (v:=?_) (a':=?_) #[true,true,true,true,true,true,true,true,true,true,true] rfl rfl (zAN HT_.out (by kernel_rfl)) (fun _ _ _ h=>h) (Or.inl ⟨by rfl,?_⟩) ?_ ?_
 rotate_left
 ·intro w'
  go_simp
  with_reducible rfl
 rotate_left
 ·simp only [Act.put,List.setIfInBounds_toArray,List.set_cons_zero,List.set_cons_succ,zAO,zAR]
  rfl
 refine done_ (done_of HT_.out (by kernel_rfl)) ?_
 try go_wp2
 go_roundg k1
 case measure=>have:=HK1.out;omega
 case rel=>exact ⟨(wrap64 (x5_1+1)),aS2_,H',⟨by have:=HK1.out;omega⟩,⟨aH_ HB.out⟩⟩
end Go.Proofs.YtkikekiokclmdaaGreatDoor.S

namespace Go.Proofs.YtkikekiokclmdaaGreatDoor.S
open Go.RowKit Go.Proofs.YtkikekiokclmdaaGreatDoorW.PrintWords Go.Proofs.YtkikekiokclmdaaGreatDoorW.PrintLast Go.Proofs.YtkikekiokclmdaaGreatDoorW.PrintMore
def pv (b : Bool) (v : Int) : List Int → Int × Int × Int
  | [] => (hiW v, loW v, 0)
  | x :: xs => if inR (10 * v) then (if inR (10 * v + sgn b (x - 48)) then pv b (10 * v + sgn b (x - 48)) xs else (0, 0, 10)) else (0, 0, 10)
theorem parse_loop (b : Bool) (xs : List Int) (hx : ∀ x ∈ xs, 48 ≤ x ∧ x ≤ 57) (hn : xs.length < 9223372036854775807) : ∀ (n i : Nat) (h l : Int) (k : Nat), n + i = xs.length → Wd h l → 2 * n + 3 ≤ k →
    zAb.l0 k b xs (xs.length : Int) (i : Int) h l = some (pv b (V h l) (xs.drop i)) := by
  intro n
  induction n with
  | zero =>
    intro i h l k hi w hk
    obtain ⟨k, rfl⟩ : ∃ x, k = x + 1 := ⟨k - 1, by omega⟩
    simp only [zAb.l0]
    rw [if_neg (by omega), List.drop_of_length_le (by omega)]
    simp only [pv]
    rw [(to_V w).1, (to_V w).2]
  | succ n ih =>
    intro i h l k hi w hk
    obtain ⟨k, rfl⟩ : ∃ x, k = x + 1 + 1 + 1 := ⟨k - 3, by omega⟩
    simp only [zAb.l0]
    rw [if_pos (by omega), if_pos (by omega), if_pos (by omega)]
    have hil : i < xs.length := by omega
    have hd : xs.drop i = rd xs (i : Int) :: xs.drop (i + 1) := by
      rw [List.drop_eq_getElem_cons hil]
      congr 1
      have := rd_get hil
      rw [List.getElem?_eq_getElem hil] at this
      exact Option.some.inj this
    have hb := hx (rd xs (i : Int)) (by
      have := rd_get hil
      exact List.mem_of_getElem? this)
    rw [hd]
    generalize rd xs (i : Int) = x at *
    have hm : (x - 48) % 256 = x - 48 := by omega
    rw [hm]
    have iD : inR (sgn b (x - 48)) := by unfold sgn inR; split <;> omega
    have iX : inR (x - 48) := by unfold inR; omega
    have hj : ∀ h2 l2, h2 = hiW (sgn b (x - 48)) → l2 = loW (sgn b (x - 48)) → zAb.j1 (k + 1 + 1) b xs (xs.length : Int) (i : Int) h l h2 l2 = some (pv b (V h l) (x :: xs.drop (i + 1))) := by
      intro h2 l2 e1 e2
      subst e1; subst e2
      simp only [zAb.j1]
      refine Option.bind_eq_some_iff.2 ⟨_, of10, ?_⟩
      refine Option.bind_eq_some_iff.2 ⟨_, mul10 w k, ?_⟩
      simp only [pv]
      by_cases h10 : inR (10 * V h l)
      · rw [if_pos h10]
        have eo : outW (10 * V h l) = (hiW (10 * V h l), loW (10 * V h l), 0) := by unfold outW; rw [if_pos h10]
        rw [eo, if_pos rfl]
        refine Option.bind_eq_some_iff.2 ⟨_, add_f (Wd.to h10) (Wd.to iD), ?_⟩
        rw [V_to, V_to]
        by_cases h11 : inR (10 * V h l + sgn b (x - 48))
        · rw [if_pos h11]
          have ep : outW (10 * V h l + sgn b (x - 48)) = (hiW (10 * V h l + sgn b (x - 48)), loW (10 * V h l + sgn b (x - 48)), 0) := by unfold outW; rw [if_pos h11]
          rw [ep, if_pos rfl, show wrap64 ((i : Int) + 1) = ((i + 1 : Nat) : Int) from by rw [wrap64_def]; omega]
          have := ih (i + 1) _ _ (k + 1) (by omega) (Wd.to h11) (by omega)
          rw [V_to] at this
          exact this
        · rw [if_neg h11]
          have ep : outW (10 * V h l + sgn b (x - 48)) = (0, 0, 10) := by unfold outW; rw [if_neg h11]
          rw [ep, if_neg (by decide)]
      · rw [if_neg h10]
        have eo : outW (10 * V h l) = (0, 0, 10) := by unfold outW; rw [if_neg h10]
        rw [eo, if_neg (by decide)]
    refine Option.bind_eq_some_iff.2 ⟨_, of_f (x - 48) (by omega) (by omega), ?_⟩
    cases b with
    | true =>
      rw [if_pos rfl]
      have en := neg_f (Wd.to iX)
      rw [V_to] at en
      refine Option.bind_eq_some_iff.2 ⟨_, en, ?_⟩
      have eo : outW (-(x - 48)) = (hiW (-(x - 48)), loW (-(x - 48)), 0) := by unfold outW; rw [if_pos (by have := iD; unfold sgn at this; rw [if_pos rfl] at this; exact this)]
      rw [eo]
      exact hj _ _ rfl rfl
    | false =>
      rw [if_neg (by decide)]
      exact hj _ _ rfl rfl
end Go.Proofs.YtkikekiokclmdaaGreatDoor.S
