/- What the proof needs, part 13 of 19. DeciOrder answers true for every two wides; the input reads as it did. -/
import Derived.Test.YtkikekiokclmdaaDoorBDeciOrder5
import Derived.Test.YtkikekiokclmdaaDoorBDeciOrder8
import Derived.Test.YtkikekiokclmdaaDoorBDeciOrder9
import Derived.Test.YtkikekiokclmdaaDoorBDeciOrder11
import Derived.Test.YtkikekiokclmdaaDoorBDeciOrder12
import Derived.Test.YtkikekiokclmdaaDoorBDeciOrder6
set_option linter.unusedVariables false
set_option linter.unusedSimpArgs false
namespace Go.Proofs.YtkikekiokclmdaaDoor.S
open Go.RowKit Go.Proofs.YtkikekiokclmdaaDoorW.PrintWords Go.Proofs.YtkikekiokclmdaaDoorW.PrintLast Go.Proofs.YtkikekiokclmdaaDoorW.PrintMore
attribute [local go_sem] max2_int min2_int max_two min_two max_three min_three max_four min_four
attribute [local go_sem high] eqA27
def zAN.f (k:Nat)  : Option (Bool):=(zAS.f k (⟨#[45,49,53]⟩:ByteArray)).bind fun bt236=>((deci_Coins.f (⟨#[49,50,46,51,48]⟩:ByteArray)).bind fun bt240=>(if bt236.2.2=0 then (if bt240.2=0 then ((wide_Of.f (-15)).bind fun bt242=>(if (bt236.1 == bt242.1 && (bt236.2.1 == bt242.2))=true then (if bt240.1=1230 then ((wide_Of.f (-15)).bind fun bt244=>((zAV.f k bt244.1 bt244.2).bind fun t246=>(if t246.toList=([45,49,53]:List UInt8) then ((deci_Money.f k (-5)).bind fun t247=>(some (t247.toList == ([45,48,46,48,53]:List UInt8)))) else (some false)))) else (some false)) else (some false))) else (some false)) else (some false)))
theorem zAN.mono:∀ k,LeO (zAN.f k ) (zAN.f (k+1) ):=by
 intro  k
 unfold zAN.f
 repeat' first
   |(with_reducible exact deci_Money.mono _ _)
   |(with_reducible exact zAS.mono _ _)
   |(with_reducible exact zAV.mono _ _ _)
   |(with_reducible exact LeO.refl _)
   |(with_reducible exact LeO.none _)
   |(with_reducible refine LeO.ite ?_ ?_)
   |(with_reducible refine LeO.bind ?_ (fun _=>?_))
   |exact deci_Money.mono _ _
   |exact zAS.mono _ _
   |exact zAV.mono _ _ _
   |exact LeO.none _
   |refine LeO.ite ?_ ?_
   |refine LeO.bind ?_ (fun _=>?_)
def zAN.T3:Bool × List (List Nat × List Nat):=(true,[([],[]),([0],[0]),([1],[1]),([2],[2]),([3,2],[2,3]),([2,4],[2,4]),([5,2],[5]),([6],[6]),([6,6],[6]),([7,8,6],[6,7,8]),([6,9],[6,9]),([10,8],[10]),([11],[11]),([12,11],[11,12]),([11,13],[11,13]),([14,11],[14]),([15,15],[15]),([16,16,15],[15,16]),([17,15],[15,17]),([15,18],[15,18]),([19,17],[19]),([20,20],[20]),([21,20],[20,21]),([20,22],[20,22]),([23,21,0,1,2,3,4,5,6,7,8,9,10,11,12,13,14,15,16,17,18,19,20,21,22,23],[23])])
def zAN.B3:List Nat:=[0,1,3,7,15,31,63,127,127,511,1023,2047,4095,8191,16383,32767,65535,131071,262143,524287,1048575,2097151,4194303,8388607,16777215]
theorem zAN.tab3:rtab .any (opsOf Tryd.f7 3)=zAN.T3:=by kernel_rfl
theorem zAN.bits3:waitsOk zAN.T3.2 zAN.B3=true:=by kernel_rfl
set_option maxHeartbeats 8000000 in
set_option maxRecDepth 100000 in
theorem zAN.calls (k:Nat)  (r:Bool) (w:World) (hG:GW w) (h:zAN.f k  = some r) :
  Calls Tryd.prog 7 #[] w fun e w'=>e = .returned (.bool r)∧Below w.heap.size w w':=by
 have hu27:=Tryd.underlying27
 have HB:=aK_ (Below.refl w.heap.size w)
 have H:((zAS.f k (⟨#[45,49,53]⟩:ByteArray)).bind fun bt236=>((deci_Coins.f (⟨#[49,50,46,51,48]⟩:ByteArray)).bind fun bt240=>(if bt236.2.2=0 then (if bt240.2=0 then ((wide_Of.f (-15)).bind fun bt242=>(if (bt236.1 == bt242.1 && (bt236.2.1 == bt242.2))=true then (if bt240.1=1230 then ((wide_Of.f (-15)).bind fun bt244=>((zAV.f k bt244.1 bt244.2).bind fun t246=>(if t246.toList=([45,49,53]:List UInt8) then ((deci_Money.f k (-5)).bind fun t247=>(some (t247.toList == ([45,48,46,48,53]:List UInt8)))) else (some false)))) else (some false)) else (some false))) else (some false)) else (some false))))=some r:=h
 clear h
 replace H:=Option.bind_eq_some_iff.mp H
 obtain ⟨⟨t236,t237,t238⟩,A10,H⟩:=H
 replace H:((deci_Coins.f (⟨#[49,50,46,51,48]⟩:ByteArray)).bind fun bt240=>(if t238=0 then (if bt240.2=0 then ((wide_Of.f (-15)).bind fun bt242=>(if (t236 == bt242.1 && (t237 == bt242.2))=true then (if bt240.1=1230 then ((wide_Of.f (-15)).bind fun bt244=>((zAV.f k bt244.1 bt244.2).bind fun t246=>(if t246.toList=([45,49,53]:List UInt8) then ((deci_Money.f k (-5)).bind fun t247=>(some (t247.toList == ([45,48,46,48,53]:List UInt8)))) else (some false)))) else (some false)) else (some false))) else (some false)) else (some false)))=some r:=H
 have A1:=aK_ A10
 clear A10
 replace H:=Option.bind_eq_some_iff.mp H
 obtain ⟨⟨t240,t241⟩,A20,H⟩:=H
 replace H:(if t238=0 then (if t241=0 then ((wide_Of.f (-15)).bind fun bt242=>(if (t236 == bt242.1 && (t237 == bt242.2))=true then (if t240=1230 then ((wide_Of.f (-15)).bind fun bt244=>((zAV.f k bt244.1 bt244.2).bind fun t246=>(if t246.toList=([45,49,53]:List UInt8) then ((deci_Money.f k (-5)).bind fun t247=>(some (t247.toList == ([45,48,46,48,53]:List UInt8)))) else (some false)))) else (some false)) else (some false))) else (some false)) else (some false))=some r:=H
 have A2:=aK_ A20
 clear A20
 by_cases c3:t238=0
 rotate_left
 ·rw [if_neg c3] at H
  have c3b0:(t238 == 0)=false:=beq_eq_false_iff_ne.mpr c3
  have c3b1:(t238 != 0)=true:=bne_iff_ne.mpr c3
  obtain rfl:=Option.some.inj H
  go_enter Tryd.func7,Tryd.ntmps7
  try go_wp2_with (first|((with_reducible refine zAL (f:=10) rfl ?_);refine goesL_ (some 6) rfl rfl Tryd.func10 (by kernel_rfl) rfl #[.string (⟨#[45,49,53]⟩:ByteArray)] rfl aM_ ?_;(with_reducible refine (zAS.calls k (⟨#[45,49,53]⟩:ByteArray) t236 t237 t238 _ A1.out).mono ?_);rintro e w46 ⟨rfl,hb⟩;refine ⟨_,rfl,?_⟩;have n0_:=aK_ (zAD (aH_ HB.out) hb);clear HB;have HB:=n0_;clear n0_;(try clear hb);(try clear hb2);(try clear hk);(try clear hi))|((with_reducible refine zAT (N:=1) rfl ?_);refine zAO ?hg (N:=1) ?hd (cs:=#[.int .i64 0,.int .u64 0]) (t:=27) ?hr ?_;(case hd=>rfl);(case hg=>rfl);(case hr=>first|(go_simp;done)|(go_simp;rfl));intro gb239 hg w47 hbox hb;have n0_:=aK_ (zAD (aH_ HB.out) hb);have n1_:=aK_ (hbox);have n2_:=aK_ ((by rw [hg];exact (zAE (aH_ HB.out)):w.heap.size≤gb239));have n3_:=aK_ ((by rw [hg];exact (zAE (aH_ HB.out)):w.heap.size≤gb239));clear HB;have HB:=n0_;have BK239:=n1_;have GW239:=n2_;have GE239:=n3_;clear n0_ n1_ n2_ n3_;clear hb hbox hg;have hcz48_0:w47.cell? ⟨gb239,0,none⟩=some (.int .i64 0):=(zAB BK239.out 0).trans rfl;have hcz48_1:w47.cell? ⟨gb239,1,none⟩=some (.int .u64 0):=(zAB BK239.out 1).trans rfl;have hfz48_0:=zAA BK239.out 0;have hfz48_1:=zAA BK239.out 1)|((with_reducible refine zAL (f:=12) rfl ?_);refine goesL_ (some 10) rfl rfl Tryd.func12 (by kernel_rfl) rfl #[.string (⟨#[49,50,46,51,48]⟩:ByteArray)] rfl aM_ ?_;(with_reducible refine (deci_Coins.calls (⟨#[49,50,46,51,48]⟩:ByteArray) t240 t241 _ ?side1 A2.out).mono ?_);(case side1=>(first|(with_reducible exact hG)|((repeat (with_reducible first|exact hG|apply GW.drewN|apply GW.drew|apply GW.alloc));done)|exact GW.below hG (aI_ HB.out GE239.out)));rintro e w49 ⟨rfl,hb⟩;refine ⟨_,rfl,?_⟩;have n0_:=aK_ (zAC (g:=gb239) (o:=.cells #[.int .i64 t236,.int .u64 t237] 27 (0,0)) (by refine aB_ ?_;refine zAX (cs:=#[.int .i64 t236,.int .u64 0]) ?_ 1 _ rfl;refine aB_ ?_;refine zAX (cs:=#[.int .i64 0,.int .u64 0]) ?_ 0 _ rfl;refine aB_ ?_;exact BK239.out) hb);have n1_:=aK_ (zAD (aI_ HB.out GE239.out) hb);clear BK239;clear HB;have BK239:=n0_;have HB:=n1_;clear n0_ n1_;(try clear hb);(try clear hb2);(try clear hk);(try clear hi)))
  have n0_:=aK_ (blk_drew BK239.out)
  have n1_:=aK_ (below_drew1 HB.out)
  clear BK239
  clear HB
  have BK239:=n0_
  have HB:=n1_
  clear n0_ n1_
  refine start_ (n:=25) (S:=fun w'=>True) (ds:=[]) #[false,false,false,false,false,false,false,false,false,false,false,false,false,false,false,false,false,false,false,false,false,false,false,false,false] (by kernel_rfl) rfl rfl trivial (fun hHeld=>?_);refine with_tabW zAN.tab3 zAN.bits3 (fun HT_ HW_=>?_)
  generalize w49.drew=w50 at BK239 HB hHeld ⊢
  refine pure_ (i:=0) (N:=some 13) (v:=?_) (a':=?_) #[true,false,false,false,false,false,false,false,false,false,false,false,false,false,false,false,false,false,false,false,false,false,false,false,false] rfl rfl (zAM HT_.out (by kernel_rfl)) (fun _ _ _ h=>h) (Or.inl ⟨by rfl,?_⟩) ?_ ?_
  rotate_left
  ·intro w'
   go_simp
   with_reducible rfl
  rotate_left
  ·simp only [Act.put,List.setIfInBounds_toArray,List.set_cons_zero,List.set_cons_succ,zAP,zAQ]
   rfl
  refine pure_ (i:=1) (N:=some 14) (v:=?_) (a':=?_) #[true,true,false,false,false,false,false,false,false,false,false,false,false,false,false,false,false,false,false,false,false,false,false,false,false] rfl rfl (zAM HT_.out (by kernel_rfl)) (fun _ _ _ h=>h) (Or.inl ⟨by rfl,?_⟩) ?_ ?_
  rotate_left
  ·intro w'
   go_simp
   with_reducible rfl
  rotate_left
  ·simp only [Act.put,List.setIfInBounds_toArray,List.set_cons_zero,List.set_cons_succ,zAP,zAQ]
   rfl
  refine pure_ (i:=2) (N:=some 15) (v:=?_) (a':=?_) #[true,true,true,false,false,false,false,false,false,false,false,false,false,false,false,false,false,false,false,false,false,false,false,false,false] rfl rfl (zAM HT_.out (by kernel_rfl)) (fun _ _ _ h=>h) (Or.inl ⟨by rfl,?_⟩) ?_ ?_
  rotate_left
  ·intro w'
   go_simp
   with_reducible rfl
  rotate_left
  ·simp only [Act.put,List.setIfInBounds_toArray,List.set_cons_zero,List.set_cons_succ,zAP,zAQ]
   rfl
  refine pure_ (i:=3) (N:=some 16) (v:=undef) (a':=?_) #[true,true,true,true,false,false,false,false,false,false,false,false,false,false,false,false,false,false,false,false,false,false,false,false,false] rfl rfl (zAM HT_.out (by kernel_rfl)) (fun _ _ _ h=>h) (Or.inr ⟨by rfl,rfl⟩) ?_ ?_
  rotate_left
  ·simp only [Act.put,List.setIfInBounds_toArray,List.set_cons_zero,List.set_cons_succ,zAP,zAQ]
   rfl
  refine pure_ (i:=4) (N:=some 17) (v:=undef) (a':=?_) #[true,true,true,true,true,false,false,false,false,false,false,false,false,false,false,false,false,false,false,false,false,false,false,false,false] rfl rfl (zAM HT_.out (by kernel_rfl)) (fun _ _ _ h=>h) (Or.inr ⟨by rfl,rfl⟩) ?_ ?_
  rotate_left
  ·simp only [Act.put,List.setIfInBounds_toArray,List.set_cons_zero,List.set_cons_succ,zAP,zAQ]
   rfl
  refine pure_ (i:=5) (N:=some 18) (v:=?_) (a':=?_) #[true,true,true,true,true,true,false,false,false,false,false,false,false,false,false,false,false,false,false,false,false,false,false,false,false] rfl rfl (zAM HT_.out (by kernel_rfl)) (fun _ _ _ h=>h) (Or.inl ⟨by rfl,?_⟩) ?_ ?_
  rotate_left
  ·intro w'
   go_simp
   with_reducible rfl
  rotate_left
  ·simp only [Act.put,List.setIfInBounds_toArray,List.set_cons_zero,List.set_cons_succ,zAP,zAQ]
   rfl
  refine pure_ (i:=6) (N:=some 19) (v:=?_) (a':=?_) #[true,true,true,true,true,true,true,false,false,false,false,false,false,false,false,false,false,false,false,false,false,false,false,false,false] rfl rfl (zAM HT_.out (by kernel_rfl)) (fun _ _ _ h=>h) (Or.inl ⟨by rfl,?_⟩) ?_ ?_
  rotate_left
  ·intro w'
   go_simp
   with_reducible rfl
  rotate_left
  ·simp only [Act.put,List.setIfInBounds_toArray,List.set_cons_zero,List.set_cons_succ,zAP,zAQ]
   rfl
  refine pure_ (i:=7) (N:=some 20) (v:=undef) (a':=?_) #[true,true,true,true,true,true,true,true,false,false,false,false,false,false,false,false,false,false,false,false,false,false,false,false,false] rfl rfl (zAM HT_.out (by kernel_rfl)) (fun _ _ _ h=>h) (Or.inr ⟨by rfl,rfl⟩) ?_ ?_
  rotate_left
  ·simp only [Act.put,List.setIfInBounds_toArray,List.set_cons_zero,List.set_cons_succ,zAP,zAQ]
   rfl
  refine pure_ (i:=8) (N:=some 21) (v:=undef) (a':=?_) #[true,true,true,true,true,true,true,true,true,false,false,false,false,false,false,false,false,false,false,false,false,false,false,false,false] rfl rfl (zAM HT_.out (by kernel_rfl)) (fun _ _ _ h=>h) (Or.inr ⟨by rfl,rfl⟩) ?_ ?_
  rotate_left
  ·simp only [Act.put,List.setIfInBounds_toArray,List.set_cons_zero,List.set_cons_succ,zAP,zAQ]
   rfl
  refine pure_ (i:=9) (N:=some 22) (v:=undef) (a':=?_) #[true,true,true,true,true,true,true,true,true,true,false,false,false,false,false,false,false,false,false,false,false,false,false,false,false] rfl rfl (zAM HT_.out (by kernel_rfl)) (fun _ _ _ h=>h) (Or.inr ⟨by rfl,rfl⟩) ?_ ?_
  rotate_left
  ·simp only [Act.put,List.setIfInBounds_toArray,List.set_cons_zero,List.set_cons_succ,zAP,zAQ]
   rfl
  refine pure_ (i:=10) (N:=some 23) (v:=?_) (a':=?_) #[true,true,true,true,true,true,true,true,true,true,true,false,false,false,false,false,false,false,false,false,false,false,false,false,false] rfl rfl (zAM HT_.out (by kernel_rfl)) (fun _ _ _ h=>h) (Or.inl ⟨by rfl,?_⟩) ?_ ?_
  rotate_left
  ·intro w'
   go_simp
   with_reducible rfl
  rotate_left
  ·simp only [Act.put,List.setIfInBounds_toArray,List.set_cons_zero,List.set_cons_succ,zAP,zAQ]
   rfl
  refine pure_ (i:=11) (N:=some 24) (v:=?_) (a':=?_) #[true,true,true,true,true,true,true,true,true,true,true,true,false,false,false,false,false,false,false,false,false,false,false,false,false] rfl rfl (zAM HT_.out (by kernel_rfl)) (fun _ _ _ h=>h) (Or.inl ⟨by rfl,?_⟩) ?_ ?_
  rotate_left
  ·intro w'
   go_simp
   with_reducible rfl
  rotate_left
  ·simp only [Act.put,List.setIfInBounds_toArray,List.set_cons_zero,List.set_cons_succ,zAP,zAQ]
   rfl
  refine pure_ (i:=12) (N:=some 25) (v:=undef) (a':=?_) #[true,true,true,true,true,true,true,true,true,true,true,true,true,false,false,false,false,false,false,false,false,false,false,false,false] rfl rfl (zAM HT_.out (by kernel_rfl)) (fun _ _ _ h=>h) (Or.inr ⟨by rfl,rfl⟩) ?_ ?_
  rotate_left
  ·simp only [Act.put,List.setIfInBounds_toArray,List.set_cons_zero,List.set_cons_succ,zAP,zAQ]
   rfl
  refine pure_ (i:=13) (N:=some 26) (v:=undef) (a':=?_) #[true,true,true,true,true,true,true,true,true,true,true,true,true,true,false,false,false,false,false,false,false,false,false,false,false] rfl rfl (zAM HT_.out (by kernel_rfl)) (fun _ _ _ h=>h) (Or.inr ⟨by rfl,rfl⟩) ?_ ?_
  rotate_left
  ·simp only [Act.put,List.setIfInBounds_toArray,List.set_cons_zero,List.set_cons_succ,zAP,zAQ]
   rfl
  refine pure_ (i:=14) (N:=some 27) (v:=?_) (a':=?_) #[true,true,true,true,true,true,true,true,true,true,true,true,true,true,true,false,false,false,false,false,false,false,false,false,false] rfl rfl (zAM HT_.out (by kernel_rfl)) (fun _ _ _ h=>h) (Or.inl ⟨by rfl,?_⟩) ?_ ?_
  rotate_left
  ·intro w'
   go_simp
   with_reducible rfl
  rotate_left
  ·simp only [Act.put,List.setIfInBounds_toArray,List.set_cons_zero,List.set_cons_succ,zAP,zAQ]
   rfl
  refine pure_ (i:=15) (N:=some 28) (v:=?_) (a':=?_) #[true,true,true,true,true,true,true,true,true,true,true,true,true,true,true,true,false,false,false,false,false,false,false,false,false] rfl rfl (zAM HT_.out (by kernel_rfl)) (fun _ _ _ h=>h) (Or.inl ⟨by rfl,?_⟩) ?_ ?_
  rotate_left
  ·intro w'
   go_simp
   with_reducible rfl
  rotate_left
  ·simp only [Act.put,List.setIfInBounds_toArray,List.set_cons_zero,List.set_cons_succ,zAP,zAQ]
   rfl
  refine pure_ (i:=16) (N:=some 29) (v:=undef) (a':=?_) #[true,true,true,true,true,true,true,true,true,true,true,true,true,true,true,true,true,false,false,false,false,false,false,false,false] rfl rfl (zAM HT_.out (by kernel_rfl)) (fun _ _ _ h=>h) (Or.inr ⟨by rfl,rfl⟩) ?_ ?_
  rotate_left
  ·simp only [Act.put,List.setIfInBounds_toArray,List.set_cons_zero,List.set_cons_succ,zAP,zAQ]
   rfl
  refine pure_ (i:=17) (N:=some 30) (v:=undef) (a':=?_) #[true,true,true,true,true,true,true,true,true,true,true,true,true,true,true,true,true,true,false,false,false,false,false,false,false] rfl rfl (zAM HT_.out (by kernel_rfl)) (fun _ _ _ h=>h) (Or.inr ⟨by rfl,rfl⟩) ?_ ?_
  rotate_left
  ·simp only [Act.put,List.setIfInBounds_toArray,List.set_cons_zero,List.set_cons_succ,zAP,zAQ]
   rfl
  refine pure_ (i:=18) (N:=some 31) (v:=undef) (a':=?_) #[true,true,true,true,true,true,true,true,true,true,true,true,true,true,true,true,true,true,true,false,false,false,false,false,false] rfl rfl (zAM HT_.out (by kernel_rfl)) (fun _ _ _ h=>h) (Or.inr ⟨by rfl,rfl⟩) ?_ ?_
  rotate_left
  ·simp only [Act.put,List.setIfInBounds_toArray,List.set_cons_zero,List.set_cons_succ,zAP,zAQ]
   rfl
  refine pure_ (i:=19) (N:=some 32) (v:=?_) (a':=?_) #[true,true,true,true,true,true,true,true,true,true,true,true,true,true,true,true,true,true,true,true,false,false,false,false,false] rfl rfl (zAM HT_.out (by kernel_rfl)) (fun _ _ _ h=>h) (Or.inl ⟨by rfl,?_⟩) ?_ ?_
  rotate_left
  ·intro w'
   go_simp
   with_reducible rfl
  rotate_left
  ·simp only [Act.put,List.setIfInBounds_toArray,List.set_cons_zero,List.set_cons_succ,zAP,zAQ]
   rfl
  refine pure_ (i:=20) (N:=some 33) (v:=?_) (a':=?_) #[true,true,true,true,true,true,true,true,true,true,true,true,true,true,true,true,true,true,true,true,true,false,false,false,false] rfl rfl (zAM HT_.out (by kernel_rfl)) (fun _ _ _ h=>h) (Or.inl ⟨by rfl,?_⟩) ?_ ?_
  rotate_left
  ·intro w'
   go_simp
   with_reducible rfl
  rotate_left
  ·simp only [Act.put,List.setIfInBounds_toArray,List.set_cons_zero,List.set_cons_succ,zAP,zAQ]
   rfl
  refine pure_ (i:=21) (N:=some 34) (v:=undef) (a':=?_) #[true,true,true,true,true,true,true,true,true,true,true,true,true,true,true,true,true,true,true,true,true,true,false,false,false] rfl rfl (zAM HT_.out (by kernel_rfl)) (fun _ _ _ h=>h) (Or.inr ⟨by rfl,rfl⟩) ?_ ?_
  rotate_left
  ·simp only [Act.put,List.setIfInBounds_toArray,List.set_cons_zero,List.set_cons_succ,zAP,zAQ]
   rfl
  refine pure_ (i:=22) (N:=some 35) (v:=undef) (a':=?_) #[true,true,true,true,true,true,true,true,true,true,true,true,true,true,true,true,true,true,true,true,true,true,true,false,false] rfl rfl (zAM HT_.out (by kernel_rfl)) (fun _ _ _ h=>h) (Or.inr ⟨by rfl,rfl⟩) ?_ ?_
  rotate_left
  ·simp only [Act.put,List.setIfInBounds_toArray,List.set_cons_zero,List.set_cons_succ,zAP,zAQ]
   rfl
  refine pure_ (i:=23) (N:=some 36) (v:=?_) (a':=?_) #[true,true,true,true,true,true,true,true,true,true,true,true,true,true,true,true,true,true,true,true,true,true,true,true,false] rfl rfl (zAM HT_.out (by kernel_rfl)) (fun _ _ _ h=>h) (Or.inl ⟨by rfl,?_⟩) ?_ ?_
  rotate_left
  ·intro w'
   go_simp
   with_reducible rfl
  rotate_left
  ·simp only [Act.put,List.setIfInBounds_toArray,List.set_cons_zero,List.set_cons_succ,zAP,zAQ]
   rfl
  refine pure_ (i:=24) (N:=some 0) (v:=?_) (a':=?_) #[true,true,true,true,true,true,true,true,true,true,true,true,true,true,true,true,true,true,true,true,true,true,true,true,true] rfl rfl (zAM HT_.out (by kernel_rfl)) (fun _ _ _ h=>h) (Or.inl ⟨by rfl,?_⟩) ?_ ?_
  rotate_left
  ·intro w'
   go_simp
   with_reducible rfl
  rotate_left
  ·simp only [Act.put,List.setIfInBounds_toArray,List.set_cons_zero,List.set_cons_succ,zAP,zAQ]
   rfl
  refine done_ (done_of HT_.out (by kernel_rfl)) ?_
  try go_wp2
  go_ret
  exact ⟨by first|rfl|(simp [zAI,zAJ] <;> rfl)|(simp [*,zAI,zAJ] <;> rfl),aI_ HB.out GE239.out⟩
 rw [if_pos c3] at H
 have c3b0:(t238 == 0)=true:=beq_iff_eq.mpr c3
 have c3b1:(t238 != 0)=false:=bne_eq_false_iff_eq.mpr c3
 clear c3
 by_cases c4:t241=0
 rotate_left
 ·rw [if_neg c4] at H
  have c4b0:(t241 == 0)=false:=beq_eq_false_iff_ne.mpr c4
  have c4b1:(t241 != 0)=true:=bne_iff_ne.mpr c4
  obtain rfl:=Option.some.inj H
  go_enter Tryd.func7,Tryd.ntmps7
  try go_wp2_with (first|((with_reducible refine zAL (f:=10) rfl ?_);refine goesL_ (some 6) rfl rfl Tryd.func10 (by kernel_rfl) rfl #[.string (⟨#[45,49,53]⟩:ByteArray)] rfl aM_ ?_;(with_reducible refine (zAS.calls k (⟨#[45,49,53]⟩:ByteArray) t236 t237 t238 _ A1.out).mono ?_);rintro e w41 ⟨rfl,hb⟩;refine ⟨_,rfl,?_⟩;have n0_:=aK_ (zAD (aH_ HB.out) hb);clear HB;have HB:=n0_;clear n0_;(try clear hb);(try clear hb2);(try clear hk);(try clear hi))|((with_reducible refine zAT (N:=1) rfl ?_);refine zAO ?hg (N:=1) ?hd (cs:=#[.int .i64 0,.int .u64 0]) (t:=27) ?hr ?_;(case hd=>rfl);(case hg=>rfl);(case hr=>first|(go_simp;done)|(go_simp;rfl));intro gb239 hg w42 hbox hb;have n0_:=aK_ (zAD (aH_ HB.out) hb);have n1_:=aK_ (hbox);have n2_:=aK_ ((by rw [hg];exact (zAE (aH_ HB.out)):w.heap.size≤gb239));have n3_:=aK_ ((by rw [hg];exact (zAE (aH_ HB.out)):w.heap.size≤gb239));clear HB;have HB:=n0_;have BK239:=n1_;have GW239:=n2_;have GE239:=n3_;clear n0_ n1_ n2_ n3_;clear hb hbox hg;have hcz43_0:w42.cell? ⟨gb239,0,none⟩=some (.int .i64 0):=(zAB BK239.out 0).trans rfl;have hcz43_1:w42.cell? ⟨gb239,1,none⟩=some (.int .u64 0):=(zAB BK239.out 1).trans rfl;have hfz43_0:=zAA BK239.out 0;have hfz43_1:=zAA BK239.out 1)|((with_reducible refine zAL (f:=12) rfl ?_);refine goesL_ (some 10) rfl rfl Tryd.func12 (by kernel_rfl) rfl #[.string (⟨#[49,50,46,51,48]⟩:ByteArray)] rfl aM_ ?_;(with_reducible refine (deci_Coins.calls (⟨#[49,50,46,51,48]⟩:ByteArray) t240 t241 _ ?side1 A2.out).mono ?_);(case side1=>(first|(with_reducible exact hG)|((repeat (with_reducible first|exact hG|apply GW.drewN|apply GW.drew|apply GW.alloc));done)|exact GW.below hG (aI_ HB.out GE239.out)));rintro e w44 ⟨rfl,hb⟩;refine ⟨_,rfl,?_⟩;have n0_:=aK_ (zAC (g:=gb239) (o:=.cells #[.int .i64 t236,.int .u64 t237] 27 (0,0)) (by refine aB_ ?_;refine zAX (cs:=#[.int .i64 t236,.int .u64 0]) ?_ 1 _ rfl;refine aB_ ?_;refine zAX (cs:=#[.int .i64 0,.int .u64 0]) ?_ 0 _ rfl;refine aB_ ?_;exact BK239.out) hb);have n1_:=aK_ (zAD (aI_ HB.out GE239.out) hb);clear BK239;clear HB;have BK239:=n0_;have HB:=n1_;clear n0_ n1_;(try clear hb);(try clear hb2);(try clear hk);(try clear hi)))
  have n0_:=aK_ (blk_drew BK239.out)
  have n1_:=aK_ (below_drew1 HB.out)
  clear BK239
  clear HB
  have BK239:=n0_
  have HB:=n1_
  clear n0_ n1_
  refine start_ (n:=25) (S:=fun w'=>True) (ds:=[]) #[false,false,false,false,false,false,false,false,false,false,false,false,false,false,false,false,false,false,false,false,false,false,false,false,false] (by kernel_rfl) rfl rfl trivial (fun hHeld=>?_);refine with_tabW zAN.tab3 zAN.bits3 (fun HT_ HW_=>?_)
  generalize w44.drew=w45 at BK239 HB hHeld ⊢
  refine pure_ (i:=0) (N:=some 13) (v:=?_) (a':=?_) #[true,false,false,false,false,false,false,false,false,false,false,false,false,false,false,false,false,false,false,false,false,false,false,false,false] rfl rfl (zAM HT_.out (by kernel_rfl)) (fun _ _ _ h=>h) (Or.inl ⟨by rfl,?_⟩) ?_ ?_
  rotate_left
  ·intro w'
   go_simp
   with_reducible rfl
  rotate_left
  ·simp only [Act.put,List.setIfInBounds_toArray,List.set_cons_zero,List.set_cons_succ,zAP,zAQ]
   rfl
  refine pure_ (i:=1) (N:=some 14) (v:=?_) (a':=?_) #[true,true,false,false,false,false,false,false,false,false,false,false,false,false,false,false,false,false,false,false,false,false,false,false,false] rfl rfl (zAM HT_.out (by kernel_rfl)) (fun _ _ _ h=>h) (Or.inl ⟨by rfl,?_⟩) ?_ ?_
  rotate_left
  ·intro w'
   go_simp
   with_reducible rfl
  rotate_left
  ·simp only [Act.put,List.setIfInBounds_toArray,List.set_cons_zero,List.set_cons_succ,zAP,zAQ]
   rfl
  refine pure_ (i:=2) (N:=some 15) (v:=?_) (a':=?_) #[true,true,true,false,false,false,false,false,false,false,false,false,false,false,false,false,false,false,false,false,false,false,false,false,false] rfl rfl (zAM HT_.out (by kernel_rfl)) (fun _ _ _ h=>h) (Or.inl ⟨by rfl,?_⟩) ?_ ?_
  rotate_left
  ·intro w'
   go_simp
   with_reducible rfl
  rotate_left
  ·simp only [Act.put,List.setIfInBounds_toArray,List.set_cons_zero,List.set_cons_succ,zAP,zAQ]
   rfl
  refine pure_ (i:=3) (N:=some 16) (v:=?_) (a':=?_) #[true,true,true,true,false,false,false,false,false,false,false,false,false,false,false,false,false,false,false,false,false,false,false,false,false] rfl rfl (zAM HT_.out (by kernel_rfl)) (fun _ _ _ h=>h) (Or.inl ⟨by rfl,?_⟩) ?_ ?_
  rotate_left
  ·intro w'
   go_simp
   with_reducible rfl
  rotate_left
  ·simp only [Act.put,List.setIfInBounds_toArray,List.set_cons_zero,List.set_cons_succ,zAP,zAQ]
   rfl
  refine pure_ (i:=4) (N:=some 17) (v:=?_) (a':=?_) #[true,true,true,true,true,false,false,false,false,false,false,false,false,false,false,false,false,false,false,false,false,false,false,false,false] rfl rfl (zAM HT_.out (by kernel_rfl)) (fun _ _ _ h=>h) (Or.inl ⟨by rfl,?_⟩) ?_ ?_
  rotate_left
  ·intro w'
   go_simp
   with_reducible rfl
  rotate_left
  ·simp only [Act.put,List.setIfInBounds_toArray,List.set_cons_zero,List.set_cons_succ,zAP,zAQ]
   rfl
  refine pure_ (i:=5) (N:=some 18) (v:=?_) (a':=?_) #[true,true,true,true,true,true,false,false,false,false,false,false,false,false,false,false,false,false,false,false,false,false,false,false,false] rfl rfl (zAM HT_.out (by kernel_rfl)) (fun _ _ _ h=>h) (Or.inl ⟨by rfl,?_⟩) ?_ ?_
  rotate_left
  ·intro w'
   go_simp
   with_reducible rfl
  rotate_left
  ·simp only [Act.put,List.setIfInBounds_toArray,List.set_cons_zero,List.set_cons_succ,zAP,zAQ]
   rfl
  refine pure_ (i:=6) (N:=some 19) (v:=?_) (a':=?_) #[true,true,true,true,true,true,true,false,false,false,false,false,false,false,false,false,false,false,false,false,false,false,false,false,false] rfl rfl (zAM HT_.out (by kernel_rfl)) (fun _ _ _ h=>h) (Or.inl ⟨by rfl,?_⟩) ?_ ?_
  rotate_left
  ·intro w'
   go_simp
   with_reducible rfl
  rotate_left
  ·simp only [Act.put,List.setIfInBounds_toArray,List.set_cons_zero,List.set_cons_succ,zAP,zAQ]
   rfl
  refine pure_ (i:=7) (N:=some 20) (v:=undef) (a':=?_) #[true,true,true,true,true,true,true,true,false,false,false,false,false,false,false,false,false,false,false,false,false,false,false,false,false] rfl rfl (zAM HT_.out (by kernel_rfl)) (fun _ _ _ h=>h) (Or.inr ⟨by rfl,rfl⟩) ?_ ?_
  rotate_left
  ·simp only [Act.put,List.setIfInBounds_toArray,List.set_cons_zero,List.set_cons_succ,zAP,zAQ]
   rfl
  refine pure_ (i:=8) (N:=some 21) (v:=undef) (a':=?_) #[true,true,true,true,true,true,true,true,true,false,false,false,false,false,false,false,false,false,false,false,false,false,false,false,false] rfl rfl (zAM HT_.out (by kernel_rfl)) (fun _ _ _ h=>h) (Or.inr ⟨by rfl,rfl⟩) ?_ ?_
  rotate_left
  ·simp only [Act.put,List.setIfInBounds_toArray,List.set_cons_zero,List.set_cons_succ,zAP,zAQ]
   rfl
  refine pure_ (i:=9) (N:=some 22) (v:=undef) (a':=?_) #[true,true,true,true,true,true,true,true,true,true,false,false,false,false,false,false,false,false,false,false,false,false,false,false,false] rfl rfl (zAM HT_.out (by kernel_rfl)) (fun _ _ _ h=>h) (Or.inr ⟨by rfl,rfl⟩) ?_ ?_
  rotate_left
  ·simp only [Act.put,List.setIfInBounds_toArray,List.set_cons_zero,List.set_cons_succ,zAP,zAQ]
   rfl
  refine pure_ (i:=10) (N:=some 23) (v:=?_) (a':=?_) #[true,true,true,true,true,true,true,true,true,true,true,false,false,false,false,false,false,false,false,false,false,false,false,false,false] rfl rfl (zAM HT_.out (by kernel_rfl)) (fun _ _ _ h=>h) (Or.inl ⟨by rfl,?_⟩) ?_ ?_
  rotate_left
  ·intro w'
   go_simp
   with_reducible rfl
  rotate_left
  ·simp only [Act.put,List.setIfInBounds_toArray,List.set_cons_zero,List.set_cons_succ,zAP,zAQ]
   rfl
  refine pure_ (i:=11) (N:=some 24) (v:=?_) (a':=?_) #[true,true,true,true,true,true,true,true,true,true,true,true,false,false,false,false,false,false,false,false,false,false,false,false,false] rfl rfl (zAM HT_.out (by kernel_rfl)) (fun _ _ _ h=>h) (Or.inl ⟨by rfl,?_⟩) ?_ ?_
  rotate_left
  ·intro w'
   go_simp
   with_reducible rfl
  rotate_left
  ·simp only [Act.put,List.setIfInBounds_toArray,List.set_cons_zero,List.set_cons_succ,zAP,zAQ]
   rfl
  refine pure_ (i:=12) (N:=some 25) (v:=undef) (a':=?_) #[true,true,true,true,true,true,true,true,true,true,true,true,true,false,false,false,false,false,false,false,false,false,false,false,false] rfl rfl (zAM HT_.out (by kernel_rfl)) (fun _ _ _ h=>h) (Or.inr ⟨by rfl,rfl⟩) ?_ ?_
  rotate_left
  ·simp only [Act.put,List.setIfInBounds_toArray,List.set_cons_zero,List.set_cons_succ,zAP,zAQ]
   rfl
  refine pure_ (i:=13) (N:=some 26) (v:=undef) (a':=?_) #[true,true,true,true,true,true,true,true,true,true,true,true,true,true,false,false,false,false,false,false,false,false,false,false,false] rfl rfl (zAM HT_.out (by kernel_rfl)) (fun _ _ _ h=>h) (Or.inr ⟨by rfl,rfl⟩) ?_ ?_
  rotate_left
  ·simp only [Act.put,List.setIfInBounds_toArray,List.set_cons_zero,List.set_cons_succ,zAP,zAQ]
   rfl
  refine pure_ (i:=14) (N:=some 27) (v:=?_) (a':=?_) #[true,true,true,true,true,true,true,true,true,true,true,true,true,true,true,false,false,false,false,false,false,false,false,false,false] rfl rfl (zAM HT_.out (by kernel_rfl)) (fun _ _ _ h=>h) (Or.inl ⟨by rfl,?_⟩) ?_ ?_
  rotate_left
  ·intro w'
   go_simp
   with_reducible rfl
  rotate_left
  ·simp only [Act.put,List.setIfInBounds_toArray,List.set_cons_zero,List.set_cons_succ,zAP,zAQ]
   rfl
  refine pure_ (i:=15) (N:=some 28) (v:=?_) (a':=?_) #[true,true,true,true,true,true,true,true,true,true,true,true,true,true,true,true,false,false,false,false,false,false,false,false,false] rfl rfl (zAM HT_.out (by kernel_rfl)) (fun _ _ _ h=>h) (Or.inl ⟨by rfl,?_⟩) ?_ ?_
  rotate_left
  ·intro w'
   go_simp
   with_reducible rfl
  rotate_left
  ·simp only [Act.put,List.setIfInBounds_toArray,List.set_cons_zero,List.set_cons_succ,zAP,zAQ]
   rfl
  refine pure_ (i:=16) (N:=some 29) (v:=undef) (a':=?_) #[true,true,true,true,true,true,true,true,true,true,true,true,true,true,true,true,true,false,false,false,false,false,false,false,false] rfl rfl (zAM HT_.out (by kernel_rfl)) (fun _ _ _ h=>h) (Or.inr ⟨by rfl,rfl⟩) ?_ ?_
  rotate_left
  ·simp only [Act.put,List.setIfInBounds_toArray,List.set_cons_zero,List.set_cons_succ,zAP,zAQ]
   rfl
  refine pure_ (i:=17) (N:=some 30) (v:=undef) (a':=?_) #[true,true,true,true,true,true,true,true,true,true,true,true,true,true,true,true,true,true,false,false,false,false,false,false,false] rfl rfl (zAM HT_.out (by kernel_rfl)) (fun _ _ _ h=>h) (Or.inr ⟨by rfl,rfl⟩) ?_ ?_
  rotate_left
  ·simp only [Act.put,List.setIfInBounds_toArray,List.set_cons_zero,List.set_cons_succ,zAP,zAQ]
   rfl
  refine pure_ (i:=18) (N:=some 31) (v:=undef) (a':=?_) #[true,true,true,true,true,true,true,true,true,true,true,true,true,true,true,true,true,true,true,false,false,false,false,false,false] rfl rfl (zAM HT_.out (by kernel_rfl)) (fun _ _ _ h=>h) (Or.inr ⟨by rfl,rfl⟩) ?_ ?_
  rotate_left
  ·simp only [Act.put,List.setIfInBounds_toArray,List.set_cons_zero,List.set_cons_succ,zAP,zAQ]
   rfl
  refine pure_ (i:=19) (N:=some 32) (v:=?_) (a':=?_) #[true,true,true,true,true,true,true,true,true,true,true,true,true,true,true,true,true,true,true,true,false,false,false,false,false] rfl rfl (zAM HT_.out (by kernel_rfl)) (fun _ _ _ h=>h) (Or.inl ⟨by rfl,?_⟩) ?_ ?_
  rotate_left
  ·intro w'
   go_simp
   with_reducible rfl
  rotate_left
  ·simp only [Act.put,List.setIfInBounds_toArray,List.set_cons_zero,List.set_cons_succ,zAP,zAQ]
   rfl
  refine pure_ (i:=20) (N:=some 33) (v:=?_) (a':=?_) #[true,true,true,true,true,true,true,true,true,true,true,true,true,true,true,true,true,true,true,true,true,false,false,false,false] rfl rfl (zAM HT_.out (by kernel_rfl)) (fun _ _ _ h=>h) (Or.inl ⟨by rfl,?_⟩) ?_ ?_
  rotate_left
  ·intro w'
   go_simp
   with_reducible rfl
  rotate_left
  ·simp only [Act.put,List.setIfInBounds_toArray,List.set_cons_zero,List.set_cons_succ,zAP,zAQ]
   rfl
  refine pure_ (i:=21) (N:=some 34) (v:=undef) (a':=?_) #[true,true,true,true,true,true,true,true,true,true,true,true,true,true,true,true,true,true,true,true,true,true,false,false,false] rfl rfl (zAM HT_.out (by kernel_rfl)) (fun _ _ _ h=>h) (Or.inr ⟨by rfl,rfl⟩) ?_ ?_
  rotate_left
  ·simp only [Act.put,List.setIfInBounds_toArray,List.set_cons_zero,List.set_cons_succ,zAP,zAQ]
   rfl
  refine pure_ (i:=22) (N:=some 35) (v:=undef) (a':=?_) #[true,true,true,true,true,true,true,true,true,true,true,true,true,true,true,true,true,true,true,true,true,true,true,false,false] rfl rfl (zAM HT_.out (by kernel_rfl)) (fun _ _ _ h=>h) (Or.inr ⟨by rfl,rfl⟩) ?_ ?_
  rotate_left
  ·simp only [Act.put,List.setIfInBounds_toArray,List.set_cons_zero,List.set_cons_succ,zAP,zAQ]
   rfl
  refine pure_ (i:=23) (N:=some 36) (v:=?_) (a':=?_) #[true,true,true,true,true,true,true,true,true,true,true,true,true,true,true,true,true,true,true,true,true,true,true,true,false] rfl rfl (zAM HT_.out (by kernel_rfl)) (fun _ _ _ h=>h) (Or.inl ⟨by rfl,?_⟩) ?_ ?_
  rotate_left
  ·intro w'
   go_simp
   with_reducible rfl
  rotate_left
  ·simp only [Act.put,List.setIfInBounds_toArray,List.set_cons_zero,List.set_cons_succ,zAP,zAQ]
   rfl
  refine pure_ (i:=24) (N:=some 0) (v:=?_) (a':=?_) #[true,true,true,true,true,true,true,true,true,true,true,true,true,true,true,true,true,true,true,true,true,true,true,true,true] rfl rfl (zAM HT_.out (by kernel_rfl)) (fun _ _ _ h=>h) (Or.inl ⟨by rfl,?_⟩) ?_ ?_
  rotate_left
  ·intro w'
   go_simp
   with_reducible rfl
  rotate_left
  ·simp only [Act.put,List.setIfInBounds_toArray,List.set_cons_zero,List.set_cons_succ,zAP,zAQ]
   rfl
  refine done_ (done_of HT_.out (by kernel_rfl)) ?_
  try go_wp2
  go_ret
  exact ⟨by first|rfl|(simp [zAI,zAJ] <;> rfl)|(simp [*,zAI,zAJ] <;> rfl),aI_ HB.out GE239.out⟩
 rw [if_pos c4] at H
 have c4b0:(t241 == 0)=true:=beq_iff_eq.mpr c4
 have c4b1:(t241 != 0)=false:=bne_eq_false_iff_eq.mpr c4
 clear c4
 replace H:=Option.bind_eq_some_iff.mp H
 obtain ⟨⟨t242,t243⟩,A50,H⟩:=H
 replace H:(if (t236 == t242 && (t237 == t243))=true then (if t240=1230 then ((wide_Of.f (-15)).bind fun bt244=>((zAV.f k bt244.1 bt244.2).bind fun t246=>(if t246.toList=([45,49,53]:List UInt8) then ((deci_Money.f k (-5)).bind fun t247=>(some (t247.toList == ([45,48,46,48,53]:List UInt8)))) else (some false)))) else (some false)) else (some false))=some r:=H
 have A5:=aK_ A50
 clear A50
 by_cases c6:(t236 == t242 && (t237 == t243))=true
 rotate_left
 ·rw [if_neg c6] at H
  have c6b0:(t236 == t242 && (t237 == t243))=false:=by simpa using c6
  (try (have c6b1:decide (t236=t242 && (t237 == t243))=false:=by simpa using c6))
  (try (have c6b2:(t236 == t242 && (t237 == t243))=false:=by simpa using c6))
  (try (have c6b3 : ¬ (t236=t242 && (t237 == t243)):=by simpa using c6))
  clear c6
  obtain rfl:=Option.some.inj H
  go_enter Tryd.func7,Tryd.ntmps7
  try go_wp2_with (first|((with_reducible refine zAL (f:=10) rfl ?_);refine goesL_ (some 6) rfl rfl Tryd.func10 (by kernel_rfl) rfl #[.string (⟨#[45,49,53]⟩:ByteArray)] rfl aM_ ?_;(with_reducible refine (zAS.calls k (⟨#[45,49,53]⟩:ByteArray) t236 t237 t238 _ A1.out).mono ?_);rintro e w35 ⟨rfl,hb⟩;refine ⟨_,rfl,?_⟩;have n0_:=aK_ (zAD (aH_ HB.out) hb);clear HB;have HB:=n0_;clear n0_;(try clear hb);(try clear hb2);(try clear hk);(try clear hi))|((with_reducible refine zAT (N:=1) rfl ?_);refine zAO ?hg (N:=1) ?hd (cs:=#[.int .i64 0,.int .u64 0]) (t:=27) ?hr ?_;(case hd=>rfl);(case hg=>rfl);(case hr=>first|(go_simp;done)|(go_simp;rfl));intro gb239 hg w36 hbox hb;have n0_:=aK_ (zAD (aH_ HB.out) hb);have n1_:=aK_ (hbox);have n2_:=aK_ ((by rw [hg];exact (zAE (aH_ HB.out)):w.heap.size≤gb239));have n3_:=aK_ ((by rw [hg];exact (zAE (aH_ HB.out)):w.heap.size≤gb239));clear HB;have HB:=n0_;have BK239:=n1_;have GW239:=n2_;have GE239:=n3_;clear n0_ n1_ n2_ n3_;clear hb hbox hg;have hcz37_0:w36.cell? ⟨gb239,0,none⟩=some (.int .i64 0):=(zAB BK239.out 0).trans rfl;have hcz37_1:w36.cell? ⟨gb239,1,none⟩=some (.int .u64 0):=(zAB BK239.out 1).trans rfl;have hfz37_0:=zAA BK239.out 0;have hfz37_1:=zAA BK239.out 1)|((with_reducible refine zAL (f:=12) rfl ?_);refine goesL_ (some 10) rfl rfl Tryd.func12 (by kernel_rfl) rfl #[.string (⟨#[49,50,46,51,48]⟩:ByteArray)] rfl aM_ ?_;(with_reducible refine (deci_Coins.calls (⟨#[49,50,46,51,48]⟩:ByteArray) t240 t241 _ ?side1 A2.out).mono ?_);(case side1=>(first|(with_reducible exact hG)|((repeat (with_reducible first|exact hG|apply GW.drewN|apply GW.drew|apply GW.alloc));done)|exact GW.below hG (aI_ HB.out GE239.out)));rintro e w38 ⟨rfl,hb⟩;refine ⟨_,rfl,?_⟩;have n0_:=aK_ (zAC (g:=gb239) (o:=.cells #[.int .i64 t236,.int .u64 t237] 27 (0,0)) (by refine aB_ ?_;refine zAX (cs:=#[.int .i64 t236,.int .u64 0]) ?_ 1 _ rfl;refine aB_ ?_;refine zAX (cs:=#[.int .i64 0,.int .u64 0]) ?_ 0 _ rfl;refine aB_ ?_;exact BK239.out) hb);have n1_:=aK_ (zAD (aI_ HB.out GE239.out) hb);clear BK239;clear HB;have BK239:=n0_;have HB:=n1_;clear n0_ n1_;(try clear hb);(try clear hb2);(try clear hk);(try clear hi)))
  have n0_:=aK_ (blk_drew BK239.out)
  have n1_:=aK_ (below_drew1 HB.out)
  clear BK239
  clear HB
  have BK239:=n0_
  have HB:=n1_
  clear n0_ n1_
  refine start_ (n:=25) (S:=fun w'=>w'.cell? ⟨gb239,0,none⟩=some (.int .i64 t236)∧w'.cell? ⟨gb239,1,none⟩=some (.int .u64 t237)) (ds:=[]) #[false,false,false,false,false,false,false,false,false,false,false,false,false,false,false,false,false,false,false,false,false,false,false,false,false] (by kernel_rfl) rfl rfl ⟨(zAB BK239.out 0).trans rfl,(zAB BK239.out 1).trans rfl⟩ (fun hHeld=>?_);refine with_tabW zAN.tab3 zAN.bits3 (fun HT_ HW_=>?_)
  generalize w38.drew=w39 at BK239 HB hHeld ⊢
  refine pure_ (i:=0) (N:=some 13) (v:=?_) (a':=?_) #[true,false,false,false,false,false,false,false,false,false,false,false,false,false,false,false,false,false,false,false,false,false,false,false,false] rfl rfl (zAM HT_.out (by kernel_rfl)) (fun _ _ _ h=>h) (Or.inl ⟨by rfl,?_⟩) ?_ ?_
  rotate_left
  ·intro w'
   go_simp
   with_reducible rfl
  rotate_left
  ·simp only [Act.put,List.setIfInBounds_toArray,List.set_cons_zero,List.set_cons_succ,zAP,zAQ]
   rfl
  refine pure_ (i:=1) (N:=some 14) (v:=?_) (a':=?_) #[true,true,false,false,false,false,false,false,false,false,false,false,false,false,false,false,false,false,false,false,false,false,false,false,false] rfl rfl (zAM HT_.out (by kernel_rfl)) (fun _ _ _ h=>h) (Or.inl ⟨by rfl,?_⟩) ?_ ?_
  rotate_left
  ·intro w'
   go_simp
   with_reducible rfl
  rotate_left
  ·simp only [Act.put,List.setIfInBounds_toArray,List.set_cons_zero,List.set_cons_succ,zAP,zAQ]
   rfl
  refine pure_ (i:=2) (N:=some 15) (v:=?_) (a':=?_) #[true,true,true,false,false,false,false,false,false,false,false,false,false,false,false,false,false,false,false,false,false,false,false,false,false] rfl rfl (zAM HT_.out (by kernel_rfl)) (fun _ _ _ h=>h) (Or.inl ⟨by rfl,?_⟩) ?_ ?_
  rotate_left
  ·intro w'
   go_simp
   with_reducible rfl
  rotate_left
  ·simp only [Act.put,List.setIfInBounds_toArray,List.set_cons_zero,List.set_cons_succ,zAP,zAQ]
   rfl
  refine pure_ (i:=3) (N:=some 16) (v:=?_) (a':=?_) #[true,true,true,true,false,false,false,false,false,false,false,false,false,false,false,false,false,false,false,false,false,false,false,false,false] rfl rfl (zAM HT_.out (by kernel_rfl)) (fun _ _ _ h=>h) (Or.inl ⟨by rfl,?_⟩) ?_ ?_
  rotate_left
  ·intro w'
   go_simp
   with_reducible rfl
  rotate_left
  ·simp only [Act.put,List.setIfInBounds_toArray,List.set_cons_zero,List.set_cons_succ,zAP,zAQ]
   rfl
  refine pure_ (i:=4) (N:=some 17) (v:=?_) (a':=?_) #[true,true,true,true,true,false,false,false,false,false,false,false,false,false,false,false,false,false,false,false,false,false,false,false,false] rfl rfl (zAM HT_.out (by kernel_rfl)) (fun _ _ _ h=>h) (Or.inl ⟨by rfl,?_⟩) ?_ ?_
  rotate_left
  ·intro w'
   go_simp
   with_reducible rfl
  rotate_left
  ·simp only [Act.put,List.setIfInBounds_toArray,List.set_cons_zero,List.set_cons_succ,zAP,zAQ]
   rfl
  refine pure_ (i:=5) (N:=some 18) (v:=?_) (a':=?_) #[true,true,true,true,true,true,false,false,false,false,false,false,false,false,false,false,false,false,false,false,false,false,false,false,false] rfl rfl (zAM HT_.out (by kernel_rfl)) (fun _ _ _ h=>h) (Or.inl ⟨by rfl,?_⟩) ?_ ?_
  rotate_left
  ·intro w'
   go_simp
   with_reducible rfl
  rotate_left
  ·simp only [Act.put,List.setIfInBounds_toArray,List.set_cons_zero,List.set_cons_succ,zAP,zAQ]
   rfl
  refine pure_ (i:=6) (N:=some 19) (v:=?_) (a':=?_) #[true,true,true,true,true,true,true,false,false,false,false,false,false,false,false,false,false,false,false,false,false,false,false,false,false] rfl rfl (zAM HT_.out (by kernel_rfl)) (fun _ _ _ h=>h) (Or.inl ⟨by rfl,?_⟩) ?_ ?_
  rotate_left
  ·intro w'
   go_simp
   with_reducible rfl
  rotate_left
  ·simp only [Act.put,List.setIfInBounds_toArray,List.set_cons_zero,List.set_cons_succ,zAP,zAQ]
   rfl
  refine take_ (i:=7) (N:=some 20) (v:=?_) (a':=?_) #[true,true,true,true,true,true,true,true,false,false,false,false,false,false,false,false,false,false,false,false,false,false,false,false,false] rfl rfl (take_ofW HT_.out HW_.out (by kernel_rfl)) (fun _ _ _ h=>h) (Or.inl ⟨by rfl,?_⟩) hHeld ?_ ?_
  rotate_left
  ·rintro w' ⟨s0,s1⟩
   go_simp
   with_reducible rfl
  rotate_left
  ·simp only [Act.put,List.setIfInBounds_toArray,List.set_cons_zero,List.set_cons_succ,zAP,zAQ]
   rfl
  refine one_ (i:=8) (N:=some 21) #[true,true,true,true,true,true,true,true,true,false,false,false,false,false,false,false,false,false,false,false,false,false,false,false,false] rfl rfl (one_of HT_.out (by kernel_rfl)) (by decide) (fun K hK=>?_)
  refine goes_ Tryd.func17 (by kernel_rfl) rfl #[.int .i64 (-15)] (by rfl) rfl rfl aM_ ?_
  with_reducible refine (wide_Of.calls (-15) t242 t243 _ A5.out).mono ?_
  rintro e w40 ⟨rfl,hb⟩
  refine ⟨_,rfl,?_⟩
  have n0_:=aK_ (zAC (g:=gb239) (o:=.cells #[.int .i64 t236,.int .u64 t237] 27 (0,0)) (aB_ BK239.out) hb)
  have n1_:=aK_ (zAD (aI_ HB.out GE239.out) hb)
  clear BK239
  clear HB
  have BK239:=n0_
  have HB:=n1_
  clear n0_ n1_
  (try clear hb)
  (try clear hb2)
  (try clear hk)
  (try clear hi)
  refine hK.out _ _ ⟨(zAB BK239.out 0).trans rfl,(zAB BK239.out 1).trans rfl⟩ (fun hHeld=>?_)
  clear hK K
  refine norm_ (a':=?_) ?_ ?_
  rotate_left
  ·show Act.put _ (some 21) _=_
   simp only [Act.put,List.setIfInBounds_toArray,List.set_cons_zero,List.set_cons_succ,zAP,zAQ]
   rfl
  refine pure_ (i:=9) (N:=some 22) (v:=?_) (a':=?_) #[true,true,true,true,true,true,true,true,true,true,false,false,false,false,false,false,false,false,false,false,false,false,false,false,false] rfl rfl (zAM HT_.out (by kernel_rfl)) (fun _ _ _ h=>h) (Or.inl ⟨by rfl,?_⟩) ?_ ?_
  rotate_left
  ·intro w'
   go_simp
   with_reducible rfl
  rotate_left
  ·simp only [Act.put,List.setIfInBounds_toArray,List.set_cons_zero,List.set_cons_succ,zAP,zAQ]
   rfl
  refine pure_ (i:=10) (N:=some 23) (v:=?_) (a':=?_) #[true,true,true,true,true,true,true,true,true,true,true,false,false,false,false,false,false,false,false,false,false,false,false,false,false] rfl rfl (zAM HT_.out (by kernel_rfl)) (fun _ _ _ h=>h) (Or.inl ⟨by rfl,?_⟩) ?_ ?_
  rotate_left
  ·intro w'
   go_simp
   with_reducible rfl
  rotate_left
  ·simp only [Act.put,List.setIfInBounds_toArray,List.set_cons_zero,List.set_cons_succ,zAP,zAQ]
   rfl
  refine pure_ (i:=11) (N:=some 24) (v:=?_) (a':=?_) #[true,true,true,true,true,true,true,true,true,true,true,true,false,false,false,false,false,false,false,false,false,false,false,false,false] rfl rfl (zAM HT_.out (by kernel_rfl)) (fun _ _ _ h=>h) (Or.inl ⟨by rfl,?_⟩) ?_ ?_
  rotate_left
  ·intro w'
   go_simp
   with_reducible rfl
  rotate_left
  ·simp only [Act.put,List.setIfInBounds_toArray,List.set_cons_zero,List.set_cons_succ,zAP,zAQ]
   rfl
  refine pure_ (i:=12) (N:=some 25) (v:=undef) (a':=?_) #[true,true,true,true,true,true,true,true,true,true,true,true,true,false,false,false,false,false,false,false,false,false,false,false,false] rfl rfl (zAM HT_.out (by kernel_rfl)) (fun _ _ _ h=>h) (Or.inr ⟨by rfl,rfl⟩) ?_ ?_
  rotate_left
  ·simp only [Act.put,List.setIfInBounds_toArray,List.set_cons_zero,List.set_cons_succ,zAP,zAQ]
   rfl
  refine pure_ (i:=13) (N:=some 26) (v:=undef) (a':=?_) #[true,true,true,true,true,true,true,true,true,true,true,true,true,true,false,false,false,false,false,false,false,false,false,false,false] rfl rfl (zAM HT_.out (by kernel_rfl)) (fun _ _ _ h=>h) (Or.inr ⟨by rfl,rfl⟩) ?_ ?_
  rotate_left
  ·simp only [Act.put,List.setIfInBounds_toArray,List.set_cons_zero,List.set_cons_succ,zAP,zAQ]
   rfl
  refine pure_ (i:=14) (N:=some 27) (v:=?_) (a':=?_) #[true,true,true,true,true,true,true,true,true,true,true,true,true,true,true,false,false,false,false,false,false,false,false,false,false] rfl rfl (zAM HT_.out (by kernel_rfl)) (fun _ _ _ h=>h) (Or.inl ⟨by rfl,?_⟩) ?_ ?_
  rotate_left
  ·intro w'
   go_simp
   with_reducible rfl
  rotate_left
  ·simp only [Act.put,List.setIfInBounds_toArray,List.set_cons_zero,List.set_cons_succ,zAP,zAQ]
   rfl
  refine pure_ (i:=15) (N:=some 28) (v:=?_) (a':=?_) #[true,true,true,true,true,true,true,true,true,true,true,true,true,true,true,true,false,false,false,false,false,false,false,false,false] rfl rfl (zAM HT_.out (by kernel_rfl)) (fun _ _ _ h=>h) (Or.inl ⟨by rfl,?_⟩) ?_ ?_
  rotate_left
  ·intro w'
   go_simp
   with_reducible rfl
  rotate_left
  ·simp only [Act.put,List.setIfInBounds_toArray,List.set_cons_zero,List.set_cons_succ,zAP,zAQ]
   rfl
  refine pure_ (i:=16) (N:=some 29) (v:=undef) (a':=?_) #[true,true,true,true,true,true,true,true,true,true,true,true,true,true,true,true,true,false,false,false,false,false,false,false,false] rfl rfl (zAM HT_.out (by kernel_rfl)) (fun _ _ _ h=>h) (Or.inr ⟨by rfl,rfl⟩) ?_ ?_
  rotate_left
  ·simp only [Act.put,List.setIfInBounds_toArray,List.set_cons_zero,List.set_cons_succ,zAP,zAQ]
   rfl
  refine pure_ (i:=17) (N:=some 30) (v:=undef) (a':=?_) #[true,true,true,true,true,true,true,true,true,true,true,true,true,true,true,true,true,true,false,false,false,false,false,false,false] rfl rfl (zAM HT_.out (by kernel_rfl)) (fun _ _ _ h=>h) (Or.inr ⟨by rfl,rfl⟩) ?_ ?_
  rotate_left
  ·simp only [Act.put,List.setIfInBounds_toArray,List.set_cons_zero,List.set_cons_succ,zAP,zAQ]
   rfl
  refine pure_ (i:=18) (N:=some 31) (v:=undef) (a':=?_) #[true,true,true,true,true,true,true,true,true,true,true,true,true,true,true,true,true,true,true,false,false,false,false,false,false] rfl rfl (zAM HT_.out (by kernel_rfl)) (fun _ _ _ h=>h) (Or.inr ⟨by rfl,rfl⟩) ?_ ?_
  rotate_left
  ·simp only [Act.put,List.setIfInBounds_toArray,List.set_cons_zero,List.set_cons_succ,zAP,zAQ]
   rfl
  refine pure_ (i:=19) (N:=some 32) (v:=?_) (a':=?_) #[true,true,true,true,true,true,true,true,true,true,true,true,true,true,true,true,true,true,true,true,false,false,false,false,false] rfl rfl (zAM HT_.out (by kernel_rfl)) (fun _ _ _ h=>h) (Or.inl ⟨by rfl,?_⟩) ?_ ?_
  rotate_left
  ·intro w'
   go_simp
   with_reducible rfl
  rotate_left
  ·simp only [Act.put,List.setIfInBounds_toArray,List.set_cons_zero,List.set_cons_succ,zAP,zAQ]
   rfl
  refine pure_ (i:=20) (N:=some 33) (v:=?_) (a':=?_) #[true,true,true,true,true,true,true,true,true,true,true,true,true,true,true,true,true,true,true,true,true,false,false,false,false] rfl rfl (zAM HT_.out (by kernel_rfl)) (fun _ _ _ h=>h) (Or.inl ⟨by rfl,?_⟩) ?_ ?_
  rotate_left
  ·intro w'
   go_simp
   with_reducible rfl
  rotate_left
  ·simp only [Act.put,List.setIfInBounds_toArray,List.set_cons_zero,List.set_cons_succ,zAP,zAQ]
   rfl
  refine pure_ (i:=21) (N:=some 34) (v:=undef) (a':=?_) #[true,true,true,true,true,true,true,true,true,true,true,true,true,true,true,true,true,true,true,true,true,true,false,false,false] rfl rfl (zAM HT_.out (by kernel_rfl)) (fun _ _ _ h=>h) (Or.inr ⟨by rfl,rfl⟩) ?_ ?_
  rotate_left
  ·simp only [Act.put,List.setIfInBounds_toArray,List.set_cons_zero,List.set_cons_succ,zAP,zAQ]
   rfl
  refine pure_ (i:=22) (N:=some 35) (v:=undef) (a':=?_) #[true,true,true,true,true,true,true,true,true,true,true,true,true,true,true,true,true,true,true,true,true,true,true,false,false] rfl rfl (zAM HT_.out (by kernel_rfl)) (fun _ _ _ h=>h) (Or.inr ⟨by rfl,rfl⟩) ?_ ?_
  rotate_left
  ·simp only [Act.put,List.setIfInBounds_toArray,List.set_cons_zero,List.set_cons_succ,zAP,zAQ]
   rfl
  refine pure_ (i:=23) (N:=some 36) (v:=?_) (a':=?_) #[true,true,true,true,true,true,true,true,true,true,true,true,true,true,true,true,true,true,true,true,true,true,true,true,false] rfl rfl (zAM HT_.out (by kernel_rfl)) (fun _ _ _ h=>h) (Or.inl ⟨by rfl,?_⟩) ?_ ?_
  rotate_left
  ·intro w'
   go_simp
   with_reducible rfl
  rotate_left
  ·simp only [Act.put,List.setIfInBounds_toArray,List.set_cons_zero,List.set_cons_succ,zAP,zAQ]
   rfl
  refine pure_ (i:=24) (N:=some 0) (v:=?_) (a':=?_) #[true,true,true,true,true,true,true,true,true,true,true,true,true,true,true,true,true,true,true,true,true,true,true,true,true] rfl rfl (zAM HT_.out (by kernel_rfl)) (fun _ _ _ h=>h) (Or.inl ⟨by rfl,?_⟩) ?_ ?_
  rotate_left
  ·intro w'
   go_simp
   with_reducible rfl
  rotate_left
  ·simp only [Act.put,List.setIfInBounds_toArray,List.set_cons_zero,List.set_cons_succ,zAP,zAQ]
   rfl
  refine done_ (done_of HT_.out (by kernel_rfl)) ?_
  try go_wp2
  go_ret
  exact ⟨by first|rfl|(simp [zAI,zAJ] <;> rfl)|(simp [*,zAI,zAJ] <;> rfl),aI_ HB.out GE239.out⟩
 rw [if_pos c6] at H
 have c6b0:(t236 == t242 && (t237 == t243))=true:=c6
 (try (have c6b1:decide (t236=t242 && (t237 == t243))=true:=by simpa using c6))
 (try (have c6b2:(t236 == t242 && (t237 == t243))=true:=by simpa using c6))
 clear c6
 by_cases c7:t240=1230
 rotate_left
 ·rw [if_neg c7] at H
  have c7b0:(t240 == 1230)=false:=beq_eq_false_iff_ne.mpr c7
  have c7b1:(t240 != 1230)=true:=bne_iff_ne.mpr c7
  obtain rfl:=Option.some.inj H
  go_enter Tryd.func7,Tryd.ntmps7
  try go_wp2_with (first|((with_reducible refine zAL (f:=10) rfl ?_);refine goesL_ (some 6) rfl rfl Tryd.func10 (by kernel_rfl) rfl #[.string (⟨#[45,49,53]⟩:ByteArray)] rfl aM_ ?_;(with_reducible refine (zAS.calls k (⟨#[45,49,53]⟩:ByteArray) t236 t237 t238 _ A1.out).mono ?_);rintro e w29 ⟨rfl,hb⟩;refine ⟨_,rfl,?_⟩;have n0_:=aK_ (zAD (aH_ HB.out) hb);clear HB;have HB:=n0_;clear n0_;(try clear hb);(try clear hb2);(try clear hk);(try clear hi))|((with_reducible refine zAT (N:=1) rfl ?_);refine zAO ?hg (N:=1) ?hd (cs:=#[.int .i64 0,.int .u64 0]) (t:=27) ?hr ?_;(case hd=>rfl);(case hg=>rfl);(case hr=>first|(go_simp;done)|(go_simp;rfl));intro gb239 hg w30 hbox hb;have n0_:=aK_ (zAD (aH_ HB.out) hb);have n1_:=aK_ (hbox);have n2_:=aK_ ((by rw [hg];exact (zAE (aH_ HB.out)):w.heap.size≤gb239));have n3_:=aK_ ((by rw [hg];exact (zAE (aH_ HB.out)):w.heap.size≤gb239));clear HB;have HB:=n0_;have BK239:=n1_;have GW239:=n2_;have GE239:=n3_;clear n0_ n1_ n2_ n3_;clear hb hbox hg;have hcz31_0:w30.cell? ⟨gb239,0,none⟩=some (.int .i64 0):=(zAB BK239.out 0).trans rfl;have hcz31_1:w30.cell? ⟨gb239,1,none⟩=some (.int .u64 0):=(zAB BK239.out 1).trans rfl;have hfz31_0:=zAA BK239.out 0;have hfz31_1:=zAA BK239.out 1)|((with_reducible refine zAL (f:=12) rfl ?_);refine goesL_ (some 10) rfl rfl Tryd.func12 (by kernel_rfl) rfl #[.string (⟨#[49,50,46,51,48]⟩:ByteArray)] rfl aM_ ?_;(with_reducible refine (deci_Coins.calls (⟨#[49,50,46,51,48]⟩:ByteArray) t240 t241 _ ?side1 A2.out).mono ?_);(case side1=>(first|(with_reducible exact hG)|((repeat (with_reducible first|exact hG|apply GW.drewN|apply GW.drew|apply GW.alloc));done)|exact GW.below hG (aI_ HB.out GE239.out)));rintro e w32 ⟨rfl,hb⟩;refine ⟨_,rfl,?_⟩;have n0_:=aK_ (zAC (g:=gb239) (o:=.cells #[.int .i64 t236,.int .u64 t237] 27 (0,0)) (by refine aB_ ?_;refine zAX (cs:=#[.int .i64 t236,.int .u64 0]) ?_ 1 _ rfl;refine aB_ ?_;refine zAX (cs:=#[.int .i64 0,.int .u64 0]) ?_ 0 _ rfl;refine aB_ ?_;exact BK239.out) hb);have n1_:=aK_ (zAD (aI_ HB.out GE239.out) hb);clear BK239;clear HB;have BK239:=n0_;have HB:=n1_;clear n0_ n1_;(try clear hb);(try clear hb2);(try clear hk);(try clear hi)))
  have n0_:=aK_ (blk_drew BK239.out)
  have n1_:=aK_ (below_drew1 HB.out)
  clear BK239
  clear HB
  have BK239:=n0_
  have HB:=n1_
  clear n0_ n1_
  refine start_ (n:=25) (S:=fun w'=>w'.cell? ⟨gb239,0,none⟩=some (.int .i64 t236)∧w'.cell? ⟨gb239,1,none⟩=some (.int .u64 t237)) (ds:=[]) #[false,false,false,false,false,false,false,false,false,false,false,false,false,false,false,false,false,false,false,false,false,false,false,false,false] (by kernel_rfl) rfl rfl ⟨(zAB BK239.out 0).trans rfl,(zAB BK239.out 1).trans rfl⟩ (fun hHeld=>?_);refine with_tabW zAN.tab3 zAN.bits3 (fun HT_ HW_=>?_)
  generalize w32.drew=w33 at BK239 HB hHeld ⊢
  refine pure_ (i:=0) (N:=some 13) (v:=?_) (a':=?_) #[true,false,false,false,false,false,false,false,false,false,false,false,false,false,false,false,false,false,false,false,false,false,false,false,false] rfl rfl (zAM HT_.out (by kernel_rfl)) (fun _ _ _ h=>h) (Or.inl ⟨by rfl,?_⟩) ?_ ?_
  rotate_left
  ·intro w'
   go_simp
   with_reducible rfl
  rotate_left
  ·simp only [Act.put,List.setIfInBounds_toArray,List.set_cons_zero,List.set_cons_succ,zAP,zAQ]
   rfl
  refine pure_ (i:=1) (N:=some 14) (v:=?_) (a':=?_) #[true,true,false,false,false,false,false,false,false,false,false,false,false,false,false,false,false,false,false,false,false,false,false,false,false] rfl rfl (zAM HT_.out (by kernel_rfl)) (fun _ _ _ h=>h) (Or.inl ⟨by rfl,?_⟩) ?_ ?_
  rotate_left
  ·intro w'
   go_simp
   with_reducible rfl
  rotate_left
  ·simp only [Act.put,List.setIfInBounds_toArray,List.set_cons_zero,List.set_cons_succ,zAP,zAQ]
   rfl
  refine pure_ (i:=2) (N:=some 15) (v:=?_) (a':=?_) #[true,true,true,false,false,false,false,false,false,false,false,false,false,false,false,false,false,false,false,false,false,false,false,false,false] rfl rfl (zAM HT_.out (by kernel_rfl)) (fun _ _ _ h=>h) (Or.inl ⟨by rfl,?_⟩) ?_ ?_
  rotate_left
  ·intro w'
   go_simp
   with_reducible rfl
  rotate_left
  ·simp only [Act.put,List.setIfInBounds_toArray,List.set_cons_zero,List.set_cons_succ,zAP,zAQ]
   rfl
  refine pure_ (i:=3) (N:=some 16) (v:=?_) (a':=?_) #[true,true,true,true,false,false,false,false,false,false,false,false,false,false,false,false,false,false,false,false,false,false,false,false,false] rfl rfl (zAM HT_.out (by kernel_rfl)) (fun _ _ _ h=>h) (Or.inl ⟨by rfl,?_⟩) ?_ ?_
  rotate_left
  ·intro w'
   go_simp
   with_reducible rfl
  rotate_left
  ·simp only [Act.put,List.setIfInBounds_toArray,List.set_cons_zero,List.set_cons_succ,zAP,zAQ]
   rfl
  refine pure_ (i:=4) (N:=some 17) (v:=?_) (a':=?_) #[true,true,true,true,true,false,false,false,false,false,false,false,false,false,false,false,false,false,false,false,false,false,false,false,false] rfl rfl (zAM HT_.out (by kernel_rfl)) (fun _ _ _ h=>h) (Or.inl ⟨by rfl,?_⟩) ?_ ?_
  rotate_left
  ·intro w'
   go_simp
   with_reducible rfl
  rotate_left
  ·simp only [Act.put,List.setIfInBounds_toArray,List.set_cons_zero,List.set_cons_succ,zAP,zAQ]
   rfl
  refine pure_ (i:=5) (N:=some 18) (v:=?_) (a':=?_) #[true,true,true,true,true,true,false,false,false,false,false,false,false,false,false,false,false,false,false,false,false,false,false,false,false] rfl rfl (zAM HT_.out (by kernel_rfl)) (fun _ _ _ h=>h) (Or.inl ⟨by rfl,?_⟩) ?_ ?_
  rotate_left
  ·intro w'
   go_simp
   with_reducible rfl
  rotate_left
  ·simp only [Act.put,List.setIfInBounds_toArray,List.set_cons_zero,List.set_cons_succ,zAP,zAQ]
   rfl
  refine pure_ (i:=6) (N:=some 19) (v:=?_) (a':=?_) #[true,true,true,true,true,true,true,false,false,false,false,false,false,false,false,false,false,false,false,false,false,false,false,false,false] rfl rfl (zAM HT_.out (by kernel_rfl)) (fun _ _ _ h=>h) (Or.inl ⟨by rfl,?_⟩) ?_ ?_
  rotate_left
  ·intro w'
   go_simp
   with_reducible rfl
  rotate_left
  ·simp only [Act.put,List.setIfInBounds_toArray,List.set_cons_zero,List.set_cons_succ,zAP,zAQ]
   rfl
  refine take_ (i:=7) (N:=some 20) (v:=?_) (a':=?_) #[true,true,true,true,true,true,true,true,false,false,false,false,false,false,false,false,false,false,false,false,false,false,false,false,false] rfl rfl (take_ofW HT_.out HW_.out (by kernel_rfl)) (fun _ _ _ h=>h) (Or.inl ⟨by rfl,?_⟩) hHeld ?_ ?_
  rotate_left
  ·rintro w' ⟨s0,s1⟩
   go_simp
   with_reducible rfl
  rotate_left
  ·simp only [Act.put,List.setIfInBounds_toArray,List.set_cons_zero,List.set_cons_succ,zAP,zAQ]
   rfl
  refine one_ (i:=8) (N:=some 21) #[true,true,true,true,true,true,true,true,true,false,false,false,false,false,false,false,false,false,false,false,false,false,false,false,false] rfl rfl (one_of HT_.out (by kernel_rfl)) (by decide) (fun K hK=>?_)
  refine goes_ Tryd.func17 (by kernel_rfl) rfl #[.int .i64 (-15)] (by rfl) rfl rfl aM_ ?_
  with_reducible refine (wide_Of.calls (-15) t242 t243 _ A5.out).mono ?_
  rintro e w34 ⟨rfl,hb⟩
  refine ⟨_,rfl,?_⟩
  have n0_:=aK_ (zAC (g:=gb239) (o:=.cells #[.int .i64 t236,.int .u64 t237] 27 (0,0)) (aB_ BK239.out) hb)
  have n1_:=aK_ (zAD (aI_ HB.out GE239.out) hb)
  clear BK239
  clear HB
  have BK239:=n0_
  have HB:=n1_
  clear n0_ n1_
  (try clear hb)
  (try clear hb2)
  (try clear hk)
  (try clear hi)
  refine hK.out _ _ ⟨(zAB BK239.out 0).trans rfl,(zAB BK239.out 1).trans rfl⟩ (fun hHeld=>?_)
  clear hK K
  refine norm_ (a':=?_) ?_ ?_
  rotate_left
  ·show Act.put _ (some 21) _=_
   simp only [Act.put,List.setIfInBounds_toArray,List.set_cons_zero,List.set_cons_succ,zAP,zAQ]
   rfl
  refine pure_ (i:=9) (N:=some 22) (v:=?_) (a':=?_) #[true,true,true,true,true,true,true,true,true,true,false,false,false,false,false,false,false,false,false,false,false,false,false,false,false] rfl rfl (zAM HT_.out (by kernel_rfl)) (fun _ _ _ h=>h) (Or.inl ⟨by rfl,?_⟩) ?_ ?_
  rotate_left
  ·intro w'
   go_simp
   with_reducible rfl
  rotate_left
  ·simp only [Act.put,List.setIfInBounds_toArray,List.set_cons_zero,List.set_cons_succ,zAP,zAQ]
   rfl
  refine pure_ (i:=10) (N:=some 23) (v:=?_) (a':=?_) #[true,true,true,true,true,true,true,true,true,true,true,false,false,false,false,false,false,false,false,false,false,false,false,false,false] rfl rfl (zAM HT_.out (by kernel_rfl)) (fun _ _ _ h=>h) (Or.inl ⟨by rfl,?_⟩) ?_ ?_
  rotate_left
  ·intro w'
   go_simp
   with_reducible rfl
  rotate_left
  ·simp only [Act.put,List.setIfInBounds_toArray,List.set_cons_zero,List.set_cons_succ,zAP,zAQ]
   rfl
  refine pure_ (i:=11) (N:=some 24) (v:=?_) (a':=?_) #[true,true,true,true,true,true,true,true,true,true,true,true,false,false,false,false,false,false,false,false,false,false,false,false,false] rfl rfl (zAM HT_.out (by kernel_rfl)) (fun _ _ _ h=>h) (Or.inl ⟨by rfl,?_⟩) ?_ ?_
  rotate_left
  ·intro w'
   go_simp
   with_reducible rfl
  rotate_left
  ·simp only [Act.put,List.setIfInBounds_toArray,List.set_cons_zero,List.set_cons_succ,zAP,zAQ]
   rfl
  refine pure_ (i:=12) (N:=some 25) (v:=?_) (a':=?_) #[true,true,true,true,true,true,true,true,true,true,true,true,true,false,false,false,false,false,false,false,false,false,false,false,false] rfl rfl (zAM HT_.out (by kernel_rfl)) (fun _ _ _ h=>h) (Or.inl ⟨by rfl,?_⟩) ?_ ?_
  rotate_left
  ·intro w'
   go_simp
   with_reducible rfl
  rotate_left
  ·simp only [Act.put,List.setIfInBounds_toArray,List.set_cons_zero,List.set_cons_succ,zAP,zAQ]
   rfl
  refine pure_ (i:=13) (N:=some 26) (v:=?_) (a':=?_) #[true,true,true,true,true,true,true,true,true,true,true,true,true,true,false,false,false,false,false,false,false,false,false,false,false] rfl rfl (zAM HT_.out (by kernel_rfl)) (fun _ _ _ h=>h) (Or.inl ⟨by rfl,?_⟩) ?_ ?_
  rotate_left
  ·intro w'
   go_simp
   with_reducible rfl
  rotate_left
  ·simp only [Act.put,List.setIfInBounds_toArray,List.set_cons_zero,List.set_cons_succ,zAP,zAQ]
   rfl
  refine pure_ (i:=14) (N:=some 27) (v:=?_) (a':=?_) #[true,true,true,true,true,true,true,true,true,true,true,true,true,true,true,false,false,false,false,false,false,false,false,false,false] rfl rfl (zAM HT_.out (by kernel_rfl)) (fun _ _ _ h=>h) (Or.inl ⟨by rfl,?_⟩) ?_ ?_
  rotate_left
  ·intro w'
   go_simp
   with_reducible rfl
  rotate_left
  ·simp only [Act.put,List.setIfInBounds_toArray,List.set_cons_zero,List.set_cons_succ,zAP,zAQ]
   rfl
  refine pure_ (i:=15) (N:=some 28) (v:=?_) (a':=?_) #[true,true,true,true,true,true,true,true,true,true,true,true,true,true,true,true,false,false,false,false,false,false,false,false,false] rfl rfl (zAM HT_.out (by kernel_rfl)) (fun _ _ _ h=>h) (Or.inl ⟨by rfl,?_⟩) ?_ ?_
  rotate_left
  ·intro w'
   go_simp
   with_reducible rfl
  rotate_left
  ·simp only [Act.put,List.setIfInBounds_toArray,List.set_cons_zero,List.set_cons_succ,zAP,zAQ]
   rfl
  refine pure_ (i:=16) (N:=some 29) (v:=undef) (a':=?_) #[true,true,true,true,true,true,true,true,true,true,true,true,true,true,true,true,true,false,false,false,false,false,false,false,false] rfl rfl (zAM HT_.out (by kernel_rfl)) (fun _ _ _ h=>h) (Or.inr ⟨by rfl,rfl⟩) ?_ ?_
  rotate_left
  ·simp only [Act.put,List.setIfInBounds_toArray,List.set_cons_zero,List.set_cons_succ,zAP,zAQ]
   rfl
  refine pure_ (i:=17) (N:=some 30) (v:=undef) (a':=?_) #[true,true,true,true,true,true,true,true,true,true,true,true,true,true,true,true,true,true,false,false,false,false,false,false,false] rfl rfl (zAM HT_.out (by kernel_rfl)) (fun _ _ _ h=>h) (Or.inr ⟨by rfl,rfl⟩) ?_ ?_
  rotate_left
  ·simp only [Act.put,List.setIfInBounds_toArray,List.set_cons_zero,List.set_cons_succ,zAP,zAQ]
   rfl
  refine pure_ (i:=18) (N:=some 31) (v:=undef) (a':=?_) #[true,true,true,true,true,true,true,true,true,true,true,true,true,true,true,true,true,true,true,false,false,false,false,false,false] rfl rfl (zAM HT_.out (by kernel_rfl)) (fun _ _ _ h=>h) (Or.inr ⟨by rfl,rfl⟩) ?_ ?_
  rotate_left
  ·simp only [Act.put,List.setIfInBounds_toArray,List.set_cons_zero,List.set_cons_succ,zAP,zAQ]
   rfl
  refine pure_ (i:=19) (N:=some 32) (v:=?_) (a':=?_) #[true,true,true,true,true,true,true,true,true,true,true,true,true,true,true,true,true,true,true,true,false,false,false,false,false] rfl rfl (zAM HT_.out (by kernel_rfl)) (fun _ _ _ h=>h) (Or.inl ⟨by rfl,?_⟩) ?_ ?_
  rotate_left
  ·intro w'
   go_simp
   with_reducible rfl
  rotate_left
  ·simp only [Act.put,List.setIfInBounds_toArray,List.set_cons_zero,List.set_cons_succ,zAP,zAQ]
   rfl
  refine pure_ (i:=20) (N:=some 33) (v:=?_) (a':=?_) #[true,true,true,true,true,true,true,true,true,true,true,true,true,true,true,true,true,true,true,true,true,false,false,false,false] rfl rfl (zAM HT_.out (by kernel_rfl)) (fun _ _ _ h=>h) (Or.inl ⟨by rfl,?_⟩) ?_ ?_
  rotate_left
  ·intro w'
   go_simp
   with_reducible rfl
  rotate_left
  ·simp only [Act.put,List.setIfInBounds_toArray,List.set_cons_zero,List.set_cons_succ,zAP,zAQ]
   rfl
  refine pure_ (i:=21) (N:=some 34) (v:=undef) (a':=?_) #[true,true,true,true,true,true,true,true,true,true,true,true,true,true,true,true,true,true,true,true,true,true,false,false,false] rfl rfl (zAM HT_.out (by kernel_rfl)) (fun _ _ _ h=>h) (Or.inr ⟨by rfl,rfl⟩) ?_ ?_
  rotate_left
  ·simp only [Act.put,List.setIfInBounds_toArray,List.set_cons_zero,List.set_cons_succ,zAP,zAQ]
   rfl
  refine pure_ (i:=22) (N:=some 35) (v:=undef) (a':=?_) #[true,true,true,true,true,true,true,true,true,true,true,true,true,true,true,true,true,true,true,true,true,true,true,false,false] rfl rfl (zAM HT_.out (by kernel_rfl)) (fun _ _ _ h=>h) (Or.inr ⟨by rfl,rfl⟩) ?_ ?_
  rotate_left
  ·simp only [Act.put,List.setIfInBounds_toArray,List.set_cons_zero,List.set_cons_succ,zAP,zAQ]
   rfl
  refine pure_ (i:=23) (N:=some 36) (v:=?_) (a':=?_) #[true,true,true,true,true,true,true,true,true,true,true,true,true,true,true,true,true,true,true,true,true,true,true,true,false] rfl rfl (zAM HT_.out (by kernel_rfl)) (fun _ _ _ h=>h) (Or.inl ⟨by rfl,?_⟩) ?_ ?_
  rotate_left
  ·intro w'
   go_simp
   with_reducible rfl
  rotate_left
  ·simp only [Act.put,List.setIfInBounds_toArray,List.set_cons_zero,List.set_cons_succ,zAP,zAQ]
   rfl
  refine pure_ (i:=24) (N:=some 0) (v:=?_) (a':=?_) #[true,true,true,true,true,true,true,true,true,true,true,true,true,true,true,true,true,true,true,true,true,true,true,true,true] rfl rfl (zAM HT_.out (by kernel_rfl)) (fun _ _ _ h=>h) (Or.inl ⟨by rfl,?_⟩) ?_ ?_
  rotate_left
  ·intro w'
   go_simp
   with_reducible rfl
  rotate_left
  ·simp only [Act.put,List.setIfInBounds_toArray,List.set_cons_zero,List.set_cons_succ,zAP,zAQ]
   rfl
  refine done_ (done_of HT_.out (by kernel_rfl)) ?_
  try go_wp2
  go_ret
  exact ⟨by first|rfl|(simp [zAI,zAJ] <;> rfl)|(simp [*,zAI,zAJ] <;> rfl),aI_ HB.out GE239.out⟩
 rw [if_pos c7] at H
 have c7b0:(t240 == 1230)=true:=beq_iff_eq.mpr c7
 have c7b1:(t240 != 1230)=false:=bne_eq_false_iff_eq.mpr c7
 clear c7
 replace H:=Option.bind_eq_some_iff.mp H
 obtain ⟨⟨t244,t245⟩,A80,H⟩:=H
 replace H:((zAV.f k t244 t245).bind fun t246=>(if t246.toList=([45,49,53]:List UInt8) then ((deci_Money.f k (-5)).bind fun t247=>(some (t247.toList == ([45,48,46,48,53]:List UInt8)))) else (some false)))=some r:=H
 have A8:=aK_ A80
 clear A80
 replace H:=Option.bind_eq_some_iff.mp H
 obtain ⟨t246,A90,H⟩:=H
 replace H:(if t246.toList=([45,49,53]:List UInt8) then ((deci_Money.f k (-5)).bind fun t247=>(some (t247.toList == ([45,48,46,48,53]:List UInt8)))) else (some false))=some r:=H
 have A9:=aK_ A90
 clear A90
 by_cases c10:t246.toList=([45,49,53]:List UInt8)
 rotate_left
 ·rw [if_neg c10] at H
  have c10b0:(t246.toList == ([45,49,53]:List UInt8))=false:=beq_eq_false_iff_ne.mpr c10
  have c10b1:(t246.toList != ([45,49,53]:List UInt8))=true:=bne_iff_ne.mpr c10
  obtain rfl:=Option.some.inj H
  go_enter Tryd.func7,Tryd.ntmps7
  try go_wp2_with (first|((with_reducible refine zAL (f:=10) rfl ?_);refine goesL_ (some 6) rfl rfl Tryd.func10 (by kernel_rfl) rfl #[.string (⟨#[45,49,53]⟩:ByteArray)] rfl aM_ ?_;(with_reducible refine (zAS.calls k (⟨#[45,49,53]⟩:ByteArray) t236 t237 t238 _ A1.out).mono ?_);rintro e w21 ⟨rfl,hb⟩;refine ⟨_,rfl,?_⟩;have n0_:=aK_ (zAD (aH_ HB.out) hb);clear HB;have HB:=n0_;clear n0_;(try clear hb);(try clear hb2);(try clear hk);(try clear hi))|((with_reducible refine zAT (N:=1) rfl ?_);refine zAO ?hg (N:=1) ?hd (cs:=#[.int .i64 0,.int .u64 0]) (t:=27) ?hr ?_;(case hd=>rfl);(case hg=>rfl);(case hr=>first|(go_simp;done)|(go_simp;rfl));intro gb239 hg w22 hbox hb;have n0_:=aK_ (zAD (aH_ HB.out) hb);have n1_:=aK_ (hbox);have n2_:=aK_ ((by rw [hg];exact (zAE (aH_ HB.out)):w.heap.size≤gb239));have n3_:=aK_ ((by rw [hg];exact (zAE (aH_ HB.out)):w.heap.size≤gb239));clear HB;have HB:=n0_;have BK239:=n1_;have GW239:=n2_;have GE239:=n3_;clear n0_ n1_ n2_ n3_;clear hb hbox hg;have hcz23_0:w22.cell? ⟨gb239,0,none⟩=some (.int .i64 0):=(zAB BK239.out 0).trans rfl;have hcz23_1:w22.cell? ⟨gb239,1,none⟩=some (.int .u64 0):=(zAB BK239.out 1).trans rfl;have hfz23_0:=zAA BK239.out 0;have hfz23_1:=zAA BK239.out 1)|((with_reducible refine zAL (f:=12) rfl ?_);refine goesL_ (some 10) rfl rfl Tryd.func12 (by kernel_rfl) rfl #[.string (⟨#[49,50,46,51,48]⟩:ByteArray)] rfl aM_ ?_;(with_reducible refine (deci_Coins.calls (⟨#[49,50,46,51,48]⟩:ByteArray) t240 t241 _ ?side1 A2.out).mono ?_);(case side1=>(first|(with_reducible exact hG)|((repeat (with_reducible first|exact hG|apply GW.drewN|apply GW.drew|apply GW.alloc));done)|exact GW.below hG (aI_ HB.out GE239.out)));rintro e w24 ⟨rfl,hb⟩;refine ⟨_,rfl,?_⟩;have n0_:=aK_ (zAC (g:=gb239) (o:=.cells #[.int .i64 t236,.int .u64 t237] 27 (0,0)) (by refine aB_ ?_;refine zAX (cs:=#[.int .i64 t236,.int .u64 0]) ?_ 1 _ rfl;refine aB_ ?_;refine zAX (cs:=#[.int .i64 0,.int .u64 0]) ?_ 0 _ rfl;refine aB_ ?_;exact BK239.out) hb);have n1_:=aK_ (zAD (aI_ HB.out GE239.out) hb);clear BK239;clear HB;have BK239:=n0_;have HB:=n1_;clear n0_ n1_;(try clear hb);(try clear hb2);(try clear hk);(try clear hi)))
  have n0_:=aK_ (blk_drew BK239.out)
  have n1_:=aK_ (below_drew1 HB.out)
  clear BK239
  clear HB
  have BK239:=n0_
  have HB:=n1_
  clear n0_ n1_
  refine start_ (n:=25) (S:=fun w'=>w'.cell? ⟨gb239,0,none⟩=some (.int .i64 t236)∧w'.cell? ⟨gb239,1,none⟩=some (.int .u64 t237)) (ds:=[]) #[false,false,false,false,false,false,false,false,false,false,false,false,false,false,false,false,false,false,false,false,false,false,false,false,false] (by kernel_rfl) rfl rfl ⟨(zAB BK239.out 0).trans rfl,(zAB BK239.out 1).trans rfl⟩ (fun hHeld=>?_);refine with_tabW zAN.tab3 zAN.bits3 (fun HT_ HW_=>?_)
  generalize w24.drew=w25 at BK239 HB hHeld ⊢
  refine pure_ (i:=0) (N:=some 13) (v:=?_) (a':=?_) #[true,false,false,false,false,false,false,false,false,false,false,false,false,false,false,false,false,false,false,false,false,false,false,false,false] rfl rfl (zAM HT_.out (by kernel_rfl)) (fun _ _ _ h=>h) (Or.inl ⟨by rfl,?_⟩) ?_ ?_
  rotate_left
  ·intro w'
   go_simp
   with_reducible rfl
  rotate_left
  ·simp only [Act.put,List.setIfInBounds_toArray,List.set_cons_zero,List.set_cons_succ,zAP,zAQ]
   rfl
  refine pure_ (i:=1) (N:=some 14) (v:=?_) (a':=?_) #[true,true,false,false,false,false,false,false,false,false,false,false,false,false,false,false,false,false,false,false,false,false,false,false,false] rfl rfl (zAM HT_.out (by kernel_rfl)) (fun _ _ _ h=>h) (Or.inl ⟨by rfl,?_⟩) ?_ ?_
  rotate_left
  ·intro w'
   go_simp
   with_reducible rfl
  rotate_left
  ·simp only [Act.put,List.setIfInBounds_toArray,List.set_cons_zero,List.set_cons_succ,zAP,zAQ]
   rfl
  refine pure_ (i:=2) (N:=some 15) (v:=?_) (a':=?_) #[true,true,true,false,false,false,false,false,false,false,false,false,false,false,false,false,false,false,false,false,false,false,false,false,false] rfl rfl (zAM HT_.out (by kernel_rfl)) (fun _ _ _ h=>h) (Or.inl ⟨by rfl,?_⟩) ?_ ?_
  rotate_left
  ·intro w'
   go_simp
   with_reducible rfl
  rotate_left
  ·simp only [Act.put,List.setIfInBounds_toArray,List.set_cons_zero,List.set_cons_succ,zAP,zAQ]
   rfl
  refine pure_ (i:=3) (N:=some 16) (v:=?_) (a':=?_) #[true,true,true,true,false,false,false,false,false,false,false,false,false,false,false,false,false,false,false,false,false,false,false,false,false] rfl rfl (zAM HT_.out (by kernel_rfl)) (fun _ _ _ h=>h) (Or.inl ⟨by rfl,?_⟩) ?_ ?_
  rotate_left
  ·intro w'
   go_simp
   with_reducible rfl
  rotate_left
  ·simp only [Act.put,List.setIfInBounds_toArray,List.set_cons_zero,List.set_cons_succ,zAP,zAQ]
   rfl
  refine pure_ (i:=4) (N:=some 17) (v:=?_) (a':=?_) #[true,true,true,true,true,false,false,false,false,false,false,false,false,false,false,false,false,false,false,false,false,false,false,false,false] rfl rfl (zAM HT_.out (by kernel_rfl)) (fun _ _ _ h=>h) (Or.inl ⟨by rfl,?_⟩) ?_ ?_
  rotate_left
  ·intro w'
   go_simp
   with_reducible rfl
  rotate_left
  ·simp only [Act.put,List.setIfInBounds_toArray,List.set_cons_zero,List.set_cons_succ,zAP,zAQ]
   rfl
  refine pure_ (i:=5) (N:=some 18) (v:=?_) (a':=?_) #[true,true,true,true,true,true,false,false,false,false,false,false,false,false,false,false,false,false,false,false,false,false,false,false,false] rfl rfl (zAM HT_.out (by kernel_rfl)) (fun _ _ _ h=>h) (Or.inl ⟨by rfl,?_⟩) ?_ ?_
  rotate_left
  ·intro w'
   go_simp
   with_reducible rfl
  rotate_left
  ·simp only [Act.put,List.setIfInBounds_toArray,List.set_cons_zero,List.set_cons_succ,zAP,zAQ]
   rfl
  refine pure_ (i:=6) (N:=some 19) (v:=?_) (a':=?_) #[true,true,true,true,true,true,true,false,false,false,false,false,false,false,false,false,false,false,false,false,false,false,false,false,false] rfl rfl (zAM HT_.out (by kernel_rfl)) (fun _ _ _ h=>h) (Or.inl ⟨by rfl,?_⟩) ?_ ?_
  rotate_left
  ·intro w'
   go_simp
   with_reducible rfl
  rotate_left
  ·simp only [Act.put,List.setIfInBounds_toArray,List.set_cons_zero,List.set_cons_succ,zAP,zAQ]
   rfl
  refine take_ (i:=7) (N:=some 20) (v:=?_) (a':=?_) #[true,true,true,true,true,true,true,true,false,false,false,false,false,false,false,false,false,false,false,false,false,false,false,false,false] rfl rfl (take_ofW HT_.out HW_.out (by kernel_rfl)) (fun _ _ _ h=>h) (Or.inl ⟨by rfl,?_⟩) hHeld ?_ ?_
  rotate_left
  ·rintro w' ⟨s0,s1⟩
   go_simp
   with_reducible rfl
  rotate_left
  ·simp only [Act.put,List.setIfInBounds_toArray,List.set_cons_zero,List.set_cons_succ,zAP,zAQ]
   rfl
  refine one_ (i:=8) (N:=some 21) #[true,true,true,true,true,true,true,true,true,false,false,false,false,false,false,false,false,false,false,false,false,false,false,false,false] rfl rfl (one_of HT_.out (by kernel_rfl)) (by decide) (fun K hK=>?_)
  refine goes_ Tryd.func17 (by kernel_rfl) rfl #[.int .i64 (-15)] (by rfl) rfl rfl aM_ ?_
  with_reducible refine (wide_Of.calls (-15) t242 t243 _ A5.out).mono ?_
  rintro e w26 ⟨rfl,hb⟩
  refine ⟨_,rfl,?_⟩
  have n0_:=aK_ (zAC (g:=gb239) (o:=.cells #[.int .i64 t236,.int .u64 t237] 27 (0,0)) (aB_ BK239.out) hb)
  have n1_:=aK_ (zAD (aI_ HB.out GE239.out) hb)
  clear BK239
  clear HB
  have BK239:=n0_
  have HB:=n1_
  clear n0_ n1_
  (try clear hb)
  (try clear hb2)
  (try clear hk)
  (try clear hi)
  refine hK.out _ _ ⟨(zAB BK239.out 0).trans rfl,(zAB BK239.out 1).trans rfl⟩ (fun hHeld=>?_)
  clear hK K
  refine norm_ (a':=?_) ?_ ?_
  rotate_left
  ·show Act.put _ (some 21) _=_
   simp only [Act.put,List.setIfInBounds_toArray,List.set_cons_zero,List.set_cons_succ,zAP,zAQ]
   rfl
  refine pure_ (i:=9) (N:=some 22) (v:=?_) (a':=?_) #[true,true,true,true,true,true,true,true,true,true,false,false,false,false,false,false,false,false,false,false,false,false,false,false,false] rfl rfl (zAM HT_.out (by kernel_rfl)) (fun _ _ _ h=>h) (Or.inl ⟨by rfl,?_⟩) ?_ ?_
  rotate_left
  ·intro w'
   go_simp
   with_reducible rfl
  rotate_left
  ·simp only [Act.put,List.setIfInBounds_toArray,List.set_cons_zero,List.set_cons_succ,zAP,zAQ]
   rfl
  refine pure_ (i:=10) (N:=some 23) (v:=?_) (a':=?_) #[true,true,true,true,true,true,true,true,true,true,true,false,false,false,false,false,false,false,false,false,false,false,false,false,false] rfl rfl (zAM HT_.out (by kernel_rfl)) (fun _ _ _ h=>h) (Or.inl ⟨by rfl,?_⟩) ?_ ?_
  rotate_left
  ·intro w'
   go_simp
   with_reducible rfl
  rotate_left
  ·simp only [Act.put,List.setIfInBounds_toArray,List.set_cons_zero,List.set_cons_succ,zAP,zAQ]
   rfl
  refine pure_ (i:=11) (N:=some 24) (v:=?_) (a':=?_) #[true,true,true,true,true,true,true,true,true,true,true,true,false,false,false,false,false,false,false,false,false,false,false,false,false] rfl rfl (zAM HT_.out (by kernel_rfl)) (fun _ _ _ h=>h) (Or.inl ⟨by rfl,?_⟩) ?_ ?_
  rotate_left
  ·intro w'
   go_simp
   with_reducible rfl
  rotate_left
  ·simp only [Act.put,List.setIfInBounds_toArray,List.set_cons_zero,List.set_cons_succ,zAP,zAQ]
   rfl
  refine pure_ (i:=12) (N:=some 25) (v:=?_) (a':=?_) #[true,true,true,true,true,true,true,true,true,true,true,true,true,false,false,false,false,false,false,false,false,false,false,false,false] rfl rfl (zAM HT_.out (by kernel_rfl)) (fun _ _ _ h=>h) (Or.inl ⟨by rfl,?_⟩) ?_ ?_
  rotate_left
  ·intro w'
   go_simp
   with_reducible rfl
  rotate_left
  ·simp only [Act.put,List.setIfInBounds_toArray,List.set_cons_zero,List.set_cons_succ,zAP,zAQ]
   rfl
  refine pure_ (i:=13) (N:=some 26) (v:=?_) (a':=?_) #[true,true,true,true,true,true,true,true,true,true,true,true,true,true,false,false,false,false,false,false,false,false,false,false,false] rfl rfl (zAM HT_.out (by kernel_rfl)) (fun _ _ _ h=>h) (Or.inl ⟨by rfl,?_⟩) ?_ ?_
  rotate_left
  ·intro w'
   go_simp
   with_reducible rfl
  rotate_left
  ·simp only [Act.put,List.setIfInBounds_toArray,List.set_cons_zero,List.set_cons_succ,zAP,zAQ]
   rfl
  refine pure_ (i:=14) (N:=some 27) (v:=?_) (a':=?_) #[true,true,true,true,true,true,true,true,true,true,true,true,true,true,true,false,false,false,false,false,false,false,false,false,false] rfl rfl (zAM HT_.out (by kernel_rfl)) (fun _ _ _ h=>h) (Or.inl ⟨by rfl,?_⟩) ?_ ?_
  rotate_left
  ·intro w'
   go_simp
   with_reducible rfl
  rotate_left
  ·simp only [Act.put,List.setIfInBounds_toArray,List.set_cons_zero,List.set_cons_succ,zAP,zAQ]
   rfl
  refine pure_ (i:=15) (N:=some 28) (v:=?_) (a':=?_) #[true,true,true,true,true,true,true,true,true,true,true,true,true,true,true,true,false,false,false,false,false,false,false,false,false] rfl rfl (zAM HT_.out (by kernel_rfl)) (fun _ _ _ h=>h) (Or.inl ⟨by rfl,?_⟩) ?_ ?_
  rotate_left
  ·intro w'
   go_simp
   with_reducible rfl
  rotate_left
  ·simp only [Act.put,List.setIfInBounds_toArray,List.set_cons_zero,List.set_cons_succ,zAP,zAQ]
   rfl
  refine one_ (i:=16) (N:=some 29) #[true,true,true,true,true,true,true,true,true,true,true,true,true,true,true,true,true,false,false,false,false,false,false,false,false] rfl rfl (one_of HT_.out (by kernel_rfl)) (by decide) (fun K hK=>?_)
  refine goes_ Tryd.func17 (by kernel_rfl) rfl #[.int .i64 (-15)] (by rfl) rfl rfl aM_ ?_
  with_reducible refine (wide_Of.calls (-15) t244 t245 _ A8.out).mono ?_
  rintro e w27 ⟨rfl,hb⟩
  refine ⟨_,rfl,?_⟩
  have n0_:=aK_ (zAC (g:=gb239) (o:=.cells #[.int .i64 t236,.int .u64 t237] 27 (0,0)) (aB_ BK239.out) hb)
  have n1_:=aK_ (zAD (aI_ HB.out GE239.out) hb)
  clear BK239
  clear HB
  have BK239:=n0_
  have HB:=n1_
  clear n0_ n1_
  (try clear hb)
  (try clear hb2)
  (try clear hk)
  (try clear hi)
  refine hK.out _ _ ⟨(zAB BK239.out 0).trans rfl,(zAB BK239.out 1).trans rfl⟩ (fun hHeld=>?_)
  clear hK K
  refine norm_ (a':=?_) ?_ ?_
  rotate_left
  ·show Act.put _ (some 29) _=_
   simp only [Act.put,List.setIfInBounds_toArray,List.set_cons_zero,List.set_cons_succ,zAP,zAQ]
   rfl
  refine one_ (i:=17) (N:=some 30) #[true,true,true,true,true,true,true,true,true,true,true,true,true,true,true,true,true,true,false,false,false,false,false,false,false] rfl rfl (one_of HT_.out (by kernel_rfl)) (by decide) (fun K hK=>?_)
  refine goes_ Tryd.func8 (by kernel_rfl) rfl #[.agg #[.int .i64 t244,.int .u64 t245]] (by rfl) rfl rfl aM_ ?_
  with_reducible refine (zAV.calls k t244 t245 t246 _ ?side1 A9.out).mono ?_
  (case side1=>(first|(with_reducible exact hG)|((repeat (with_reducible first|exact hG|apply GW.drewN|apply GW.drew|apply GW.alloc));done)|exact GW.below hG (aI_ HB.out GE239.out)))
  rintro e w28 ⟨rfl,hb⟩
  refine ⟨_,rfl,?_⟩
  have n0_:=aK_ (zAC (g:=gb239) (o:=.cells #[.int .i64 t236,.int .u64 t237] 27 (0,0)) (aB_ BK239.out) hb)
  have n1_:=aK_ (zAD (aI_ HB.out GE239.out) hb)
  clear BK239
  clear HB
  have BK239:=n0_
  have HB:=n1_
  clear n0_ n1_
  (try clear hb)
  (try clear hb2)
  (try clear hk)
  (try clear hi)
  refine hK.out _ _ ⟨(zAB BK239.out 0).trans rfl,(zAB BK239.out 1).trans rfl⟩ (fun hHeld=>?_)
  clear hK K
  refine norm_ (a':=?_) ?_ ?_
  rotate_left
  ·show Act.put _ (some 30) _=_
   simp only [Act.put,List.setIfInBounds_toArray,List.set_cons_zero,List.set_cons_succ,zAP,zAQ]
   rfl
  refine pure_ (i:=18) (N:=some 31) (v:=?_) (a':=?_) #[true,true,true,true,true,true,true,true,true,true,true,true,true,true,true,true,true,true,true,false,false,false,false,false,false] rfl rfl (zAM HT_.out (by kernel_rfl)) (fun _ _ _ h=>h) (Or.inl ⟨by rfl,?_⟩) ?_ ?_
  rotate_left
  ·intro w'
   go_simp
   with_reducible rfl
  rotate_left
  ·simp only [Act.put,List.setIfInBounds_toArray,List.set_cons_zero,List.set_cons_succ,zAP,zAQ]
   rfl
  refine pure_ (i:=19) (N:=some 32) (v:=?_) (a':=?_) #[true,true,true,true,true,true,true,true,true,true,true,true,true,true,true,true,true,true,true,true,false,false,false,false,false] rfl rfl (zAM HT_.out (by kernel_rfl)) (fun _ _ _ h=>h) (Or.inl ⟨by rfl,?_⟩) ?_ ?_
  rotate_left
  ·intro w'
   go_simp
   with_reducible rfl
  rotate_left
  ·simp only [Act.put,List.setIfInBounds_toArray,List.set_cons_zero,List.set_cons_succ,zAP,zAQ]
   rfl
  refine pure_ (i:=20) (N:=some 33) (v:=?_) (a':=?_) #[true,true,true,true,true,true,true,true,true,true,true,true,true,true,true,true,true,true,true,true,true,false,false,false,false] rfl rfl (zAM HT_.out (by kernel_rfl)) (fun _ _ _ h=>h) (Or.inl ⟨by rfl,?_⟩) ?_ ?_
  rotate_left
  ·intro w'
   go_simp
   with_reducible rfl
  rotate_left
  ·simp only [Act.put,List.setIfInBounds_toArray,List.set_cons_zero,List.set_cons_succ,zAP,zAQ]
   rfl
  refine pure_ (i:=21) (N:=some 34) (v:=undef) (a':=?_) #[true,true,true,true,true,true,true,true,true,true,true,true,true,true,true,true,true,true,true,true,true,true,false,false,false] rfl rfl (zAM HT_.out (by kernel_rfl)) (fun _ _ _ h=>h) (Or.inr ⟨by rfl,rfl⟩) ?_ ?_
  rotate_left
  ·simp only [Act.put,List.setIfInBounds_toArray,List.set_cons_zero,List.set_cons_succ,zAP,zAQ]
   rfl
  refine pure_ (i:=22) (N:=some 35) (v:=undef) (a':=?_) #[true,true,true,true,true,true,true,true,true,true,true,true,true,true,true,true,true,true,true,true,true,true,true,false,false] rfl rfl (zAM HT_.out (by kernel_rfl)) (fun _ _ _ h=>h) (Or.inr ⟨by rfl,rfl⟩) ?_ ?_
  rotate_left
  ·simp only [Act.put,List.setIfInBounds_toArray,List.set_cons_zero,List.set_cons_succ,zAP,zAQ]
   rfl
  refine pure_ (i:=23) (N:=some 36) (v:=?_) (a':=?_) #[true,true,true,true,true,true,true,true,true,true,true,true,true,true,true,true,true,true,true,true,true,true,true,true,false] rfl rfl (zAM HT_.out (by kernel_rfl)) (fun _ _ _ h=>h) (Or.inl ⟨by rfl,?_⟩) ?_ ?_
  rotate_left
  ·intro w'
   go_simp
   with_reducible rfl
  rotate_left
  ·simp only [Act.put,List.setIfInBounds_toArray,List.set_cons_zero,List.set_cons_succ,zAP,zAQ]
   rfl
  refine pure_ (i:=24) (N:=some 0) (v:=?_) (a':=?_) #[true,true,true,true,true,true,true,true,true,true,true,true,true,true,true,true,true,true,true,true,true,true,true,true,true] rfl rfl (zAM HT_.out (by kernel_rfl)) (fun _ _ _ h=>h) (Or.inl ⟨by rfl,?_⟩) ?_ ?_
  rotate_left
  ·intro w'
   go_simp
   with_reducible rfl
  rotate_left
  ·simp only [Act.put,List.setIfInBounds_toArray,List.set_cons_zero,List.set_cons_succ,zAP,zAQ]
   rfl
  refine done_ (done_of HT_.out (by kernel_rfl)) ?_
  try go_wp2
  go_ret
  exact ⟨by first|rfl|(simp [zAI,zAJ] <;> rfl)|(simp [*,zAI,zAJ] <;> rfl),aI_ HB.out GE239.out⟩
 rw [if_pos c10] at H
 have c10b0:(t246.toList == ([45,49,53]:List UInt8))=true:=beq_iff_eq.mpr c10
 have c10b1:(t246.toList != ([45,49,53]:List UInt8))=false:=bne_eq_false_iff_eq.mpr c10
 clear c10
 replace H:=Option.bind_eq_some_iff.mp H
 obtain ⟨t247,A110,H⟩:=H
 replace H:(some (t247.toList == ([45,48,46,48,53]:List UInt8)))=some r:=H
 have A11:=aK_ A110
 clear A110
 obtain rfl:=Option.some.inj H
 go_enter Tryd.func7,Tryd.ntmps7
 try go_wp2_with (first|((with_reducible refine zAL (f:=10) rfl ?_);refine goesL_ (some 6) rfl rfl Tryd.func10 (by kernel_rfl) rfl #[.string (⟨#[45,49,53]⟩:ByteArray)] rfl aM_ ?_;(with_reducible refine (zAS.calls k (⟨#[45,49,53]⟩:ByteArray) t236 t237 t238 _ A1.out).mono ?_);rintro e w12 ⟨rfl,hb⟩;refine ⟨_,rfl,?_⟩;have n0_:=aK_ (zAD (aH_ HB.out) hb);clear HB;have HB:=n0_;clear n0_;(try clear hb);(try clear hb2);(try clear hk);(try clear hi))|((with_reducible refine zAT (N:=1) rfl ?_);refine zAO ?hg (N:=1) ?hd (cs:=#[.int .i64 0,.int .u64 0]) (t:=27) ?hr ?_;(case hd=>rfl);(case hg=>rfl);(case hr=>first|(go_simp;done)|(go_simp;rfl));intro gb239 hg w13 hbox hb;have n0_:=aK_ (zAD (aH_ HB.out) hb);have n1_:=aK_ (hbox);have n2_:=aK_ ((by rw [hg];exact (zAE (aH_ HB.out)):w.heap.size≤gb239));have n3_:=aK_ ((by rw [hg];exact (zAE (aH_ HB.out)):w.heap.size≤gb239));clear HB;have HB:=n0_;have BK239:=n1_;have GW239:=n2_;have GE239:=n3_;clear n0_ n1_ n2_ n3_;clear hb hbox hg;have hcz14_0:w13.cell? ⟨gb239,0,none⟩=some (.int .i64 0):=(zAB BK239.out 0).trans rfl;have hcz14_1:w13.cell? ⟨gb239,1,none⟩=some (.int .u64 0):=(zAB BK239.out 1).trans rfl;have hfz14_0:=zAA BK239.out 0;have hfz14_1:=zAA BK239.out 1)|((with_reducible refine zAL (f:=12) rfl ?_);refine goesL_ (some 10) rfl rfl Tryd.func12 (by kernel_rfl) rfl #[.string (⟨#[49,50,46,51,48]⟩:ByteArray)] rfl aM_ ?_;(with_reducible refine (deci_Coins.calls (⟨#[49,50,46,51,48]⟩:ByteArray) t240 t241 _ ?side1 A2.out).mono ?_);(case side1=>(first|(with_reducible exact hG)|((repeat (with_reducible first|exact hG|apply GW.drewN|apply GW.drew|apply GW.alloc));done)|exact GW.below hG (aI_ HB.out GE239.out)));rintro e w15 ⟨rfl,hb⟩;refine ⟨_,rfl,?_⟩;have n0_:=aK_ (zAC (g:=gb239) (o:=.cells #[.int .i64 t236,.int .u64 t237] 27 (0,0)) (by refine aB_ ?_;refine zAX (cs:=#[.int .i64 t236,.int .u64 0]) ?_ 1 _ rfl;refine aB_ ?_;refine zAX (cs:=#[.int .i64 0,.int .u64 0]) ?_ 0 _ rfl;refine aB_ ?_;exact BK239.out) hb);have n1_:=aK_ (zAD (aI_ HB.out GE239.out) hb);clear BK239;clear HB;have BK239:=n0_;have HB:=n1_;clear n0_ n1_;(try clear hb);(try clear hb2);(try clear hk);(try clear hi)))
 have n0_:=aK_ (blk_drew BK239.out)
 have n1_:=aK_ (below_drew1 HB.out)
 clear BK239
 clear HB
 have BK239:=n0_
 have HB:=n1_
 clear n0_ n1_
 refine start_ (n:=25) (S:=fun w'=>w'.cell? ⟨gb239,0,none⟩=some (.int .i64 t236)∧w'.cell? ⟨gb239,1,none⟩=some (.int .u64 t237)) (ds:=[]) #[false,false,false,false,false,false,false,false,false,false,false,false,false,false,false,false,false,false,false,false,false,false,false,false,false] (by kernel_rfl) rfl rfl ⟨(zAB BK239.out 0).trans rfl,(zAB BK239.out 1).trans rfl⟩ (fun hHeld=>?_);refine with_tabW zAN.tab3 zAN.bits3 (fun HT_ HW_=>?_)
 generalize w15.drew=w16 at BK239 HB hHeld ⊢
 refine pure_ (i:=0) (N:=some 13) (v:=?_) (a':=?_) #[true,false,false,false,false,false,false,false,false,false,false,false,false,false,false,false,false,false,false,false,false,false,false,false,false] rfl rfl (zAM HT_.out (by kernel_rfl)) (fun _ _ _ h=>h) (Or.inl ⟨by rfl,?_⟩) ?_ ?_
 rotate_left
 ·intro w'
  go_simp
  with_reducible rfl
 rotate_left
 ·simp only [Act.put,List.setIfInBounds_toArray,List.set_cons_zero,List.set_cons_succ,zAP,zAQ]
  rfl
 refine pure_ (i:=1) (N:=some 14) (v:=?_) (a':=?_) #[true,true,false,false,false,false,false,false,false,false,false,false,false,false,false,false,false,false,false,false,false,false,false,false,false] rfl rfl (zAM HT_.out (by kernel_rfl)) (fun _ _ _ h=>h) (Or.inl ⟨by rfl,?_⟩) ?_ ?_
 rotate_left
 ·intro w'
  go_simp
  with_reducible rfl
 rotate_left
 ·simp only [Act.put,List.setIfInBounds_toArray,List.set_cons_zero,List.set_cons_succ,zAP,zAQ]
  rfl
 refine pure_ (i:=2) (N:=some 15) (v:=?_) (a':=?_) #[true,true,true,false,false,false,false,false,false,false,false,false,false,false,false,false,false,false,false,false,false,false,false,false,false] rfl rfl (zAM HT_.out (by kernel_rfl)) (fun _ _ _ h=>h) (Or.inl ⟨by rfl,?_⟩) ?_ ?_
 rotate_left
 ·intro w'
  go_simp
  with_reducible rfl
 rotate_left
 ·simp only [Act.put,List.setIfInBounds_toArray,List.set_cons_zero,List.set_cons_succ,zAP,zAQ]
  rfl
 refine pure_ (i:=3) (N:=some 16) (v:=?_) (a':=?_) #[true,true,true,true,false,false,false,false,false,false,false,false,false,false,false,false,false,false,false,false,false,false,false,false,false] rfl rfl (zAM HT_.out (by kernel_rfl)) (fun _ _ _ h=>h) (Or.inl ⟨by rfl,?_⟩) ?_ ?_
 rotate_left
 ·intro w'
  go_simp
  with_reducible rfl
 rotate_left
 ·simp only [Act.put,List.setIfInBounds_toArray,List.set_cons_zero,List.set_cons_succ,zAP,zAQ]
  rfl
 refine pure_ (i:=4) (N:=some 17) (v:=?_) (a':=?_) #[true,true,true,true,true,false,false,false,false,false,false,false,false,false,false,false,false,false,false,false,false,false,false,false,false] rfl rfl (zAM HT_.out (by kernel_rfl)) (fun _ _ _ h=>h) (Or.inl ⟨by rfl,?_⟩) ?_ ?_
 rotate_left
 ·intro w'
  go_simp
  with_reducible rfl
 rotate_left
 ·simp only [Act.put,List.setIfInBounds_toArray,List.set_cons_zero,List.set_cons_succ,zAP,zAQ]
  rfl
 refine pure_ (i:=5) (N:=some 18) (v:=?_) (a':=?_) #[true,true,true,true,true,true,false,false,false,false,false,false,false,false,false,false,false,false,false,false,false,false,false,false,false] rfl rfl (zAM HT_.out (by kernel_rfl)) (fun _ _ _ h=>h) (Or.inl ⟨by rfl,?_⟩) ?_ ?_
 rotate_left
 ·intro w'
  go_simp
  with_reducible rfl
 rotate_left
 ·simp only [Act.put,List.setIfInBounds_toArray,List.set_cons_zero,List.set_cons_succ,zAP,zAQ]
  rfl
 refine pure_ (i:=6) (N:=some 19) (v:=?_) (a':=?_) #[true,true,true,true,true,true,true,false,false,false,false,false,false,false,false,false,false,false,false,false,false,false,false,false,false] rfl rfl (zAM HT_.out (by kernel_rfl)) (fun _ _ _ h=>h) (Or.inl ⟨by rfl,?_⟩) ?_ ?_
 rotate_left
 ·intro w'
  go_simp
  with_reducible rfl
 rotate_left
 ·simp only [Act.put,List.setIfInBounds_toArray,List.set_cons_zero,List.set_cons_succ,zAP,zAQ]
  rfl
 refine take_ (i:=7) (N:=some 20) (v:=?_) (a':=?_) #[true,true,true,true,true,true,true,true,false,false,false,false,false,false,false,false,false,false,false,false,false,false,false,false,false] rfl rfl (take_ofW HT_.out HW_.out (by kernel_rfl)) (fun _ _ _ h=>h) (Or.inl ⟨by rfl,?_⟩) hHeld ?_ ?_
 rotate_left
 ·rintro w' ⟨s0,s1⟩
  go_simp
  with_reducible rfl
 rotate_left
 ·simp only [Act.put,List.setIfInBounds_toArray,List.set_cons_zero,List.set_cons_succ,zAP,zAQ]
  rfl
 refine one_ (i:=8) (N:=some 21) #[true,true,true,true,true,true,true,true,true,false,false,false,false,false,false,false,false,false,false,false,false,false,false,false,false] rfl rfl (one_of HT_.out (by kernel_rfl)) (by decide) (fun K hK=>?_)
 refine goes_ Tryd.func17 (by kernel_rfl) rfl #[.int .i64 (-15)] (by rfl) rfl rfl aM_ ?_
 with_reducible refine (wide_Of.calls (-15) t242 t243 _ A5.out).mono ?_
 rintro e w17 ⟨rfl,hb⟩
 refine ⟨_,rfl,?_⟩
 have n0_:=aK_ (zAC (g:=gb239) (o:=.cells #[.int .i64 t236,.int .u64 t237] 27 (0,0)) (aB_ BK239.out) hb)
 have n1_:=aK_ (zAD (aI_ HB.out GE239.out) hb)
 clear BK239
 clear HB
 have BK239:=n0_
 have HB:=n1_
 clear n0_ n1_
 (try clear hb)
 (try clear hb2)
 (try clear hk)
 (try clear hi)
 refine hK.out _ _ ⟨(zAB BK239.out 0).trans rfl,(zAB BK239.out 1).trans rfl⟩ (fun hHeld=>?_)
 clear hK K
 refine norm_ (a':=?_) ?_ ?_
 rotate_left
 ·show Act.put _ (some 21) _=_
  simp only [Act.put,List.setIfInBounds_toArray,List.set_cons_zero,List.set_cons_succ,zAP,zAQ]
  rfl
 refine pure_ (i:=9) (N:=some 22) (v:=?_) (a':=?_) #[true,true,true,true,true,true,true,true,true,true,false,false,false,false,false,false,false,false,false,false,false,false,false,false,false] rfl rfl (zAM HT_.out (by kernel_rfl)) (fun _ _ _ h=>h) (Or.inl ⟨by rfl,?_⟩) ?_ ?_
 rotate_left
 ·intro w'
  go_simp
  with_reducible rfl
 rotate_left
 ·simp only [Act.put,List.setIfInBounds_toArray,List.set_cons_zero,List.set_cons_succ,zAP,zAQ]
  rfl
 refine pure_ (i:=10) (N:=some 23) (v:=?_) (a':=?_) #[true,true,true,true,true,true,true,true,true,true,true,false,false,false,false,false,false,false,false,false,false,false,false,false,false] rfl rfl (zAM HT_.out (by kernel_rfl)) (fun _ _ _ h=>h) (Or.inl ⟨by rfl,?_⟩) ?_ ?_
 rotate_left
 ·intro w'
  go_simp
  with_reducible rfl
 rotate_left
 ·simp only [Act.put,List.setIfInBounds_toArray,List.set_cons_zero,List.set_cons_succ,zAP,zAQ]
  rfl
 refine pure_ (i:=11) (N:=some 24) (v:=?_) (a':=?_) #[true,true,true,true,true,true,true,true,true,true,true,true,false,false,false,false,false,false,false,false,false,false,false,false,false] rfl rfl (zAM HT_.out (by kernel_rfl)) (fun _ _ _ h=>h) (Or.inl ⟨by rfl,?_⟩) ?_ ?_
 rotate_left
 ·intro w'
  go_simp
  with_reducible rfl
 rotate_left
 ·simp only [Act.put,List.setIfInBounds_toArray,List.set_cons_zero,List.set_cons_succ,zAP,zAQ]
  rfl
 refine pure_ (i:=12) (N:=some 25) (v:=?_) (a':=?_) #[true,true,true,true,true,true,true,true,true,true,true,true,true,false,false,false,false,false,false,false,false,false,false,false,false] rfl rfl (zAM HT_.out (by kernel_rfl)) (fun _ _ _ h=>h) (Or.inl ⟨by rfl,?_⟩) ?_ ?_
 rotate_left
 ·intro w'
  go_simp
  with_reducible rfl
 rotate_left
 ·simp only [Act.put,List.setIfInBounds_toArray,List.set_cons_zero,List.set_cons_succ,zAP,zAQ]
  rfl
 refine pure_ (i:=13) (N:=some 26) (v:=?_) (a':=?_) #[true,true,true,true,true,true,true,true,true,true,true,true,true,true,false,false,false,false,false,false,false,false,false,false,false] rfl rfl (zAM HT_.out (by kernel_rfl)) (fun _ _ _ h=>h) (Or.inl ⟨by rfl,?_⟩) ?_ ?_
 rotate_left
 ·intro w'
  go_simp
  with_reducible rfl
 rotate_left
 ·simp only [Act.put,List.setIfInBounds_toArray,List.set_cons_zero,List.set_cons_succ,zAP,zAQ]
  rfl
 refine pure_ (i:=14) (N:=some 27) (v:=?_) (a':=?_) #[true,true,true,true,true,true,true,true,true,true,true,true,true,true,true,false,false,false,false,false,false,false,false,false,false] rfl rfl (zAM HT_.out (by kernel_rfl)) (fun _ _ _ h=>h) (Or.inl ⟨by rfl,?_⟩) ?_ ?_
 rotate_left
 ·intro w'
  go_simp
  with_reducible rfl
 rotate_left
 ·simp only [Act.put,List.setIfInBounds_toArray,List.set_cons_zero,List.set_cons_succ,zAP,zAQ]
  rfl
 refine pure_ (i:=15) (N:=some 28) (v:=?_) (a':=?_) #[true,true,true,true,true,true,true,true,true,true,true,true,true,true,true,true,false,false,false,false,false,false,false,false,false] rfl rfl (zAM HT_.out (by kernel_rfl)) (fun _ _ _ h=>h) (Or.inl ⟨by rfl,?_⟩) ?_ ?_
 rotate_left
 ·intro w'
  go_simp
  with_reducible rfl
 rotate_left
 ·simp only [Act.put,List.setIfInBounds_toArray,List.set_cons_zero,List.set_cons_succ,zAP,zAQ]
  rfl
 refine one_ (i:=16) (N:=some 29) #[true,true,true,true,true,true,true,true,true,true,true,true,true,true,true,true,true,false,false,false,false,false,false,false,false] rfl rfl (one_of HT_.out (by kernel_rfl)) (by decide) (fun K hK=>?_)
 refine goes_ Tryd.func17 (by kernel_rfl) rfl #[.int .i64 (-15)] (by rfl) rfl rfl aM_ ?_
 with_reducible refine (wide_Of.calls (-15) t244 t245 _ A8.out).mono ?_
 rintro e w18 ⟨rfl,hb⟩
 refine ⟨_,rfl,?_⟩
 have n0_:=aK_ (zAC (g:=gb239) (o:=.cells #[.int .i64 t236,.int .u64 t237] 27 (0,0)) (aB_ BK239.out) hb)
 have n1_:=aK_ (zAD (aI_ HB.out GE239.out) hb)
 clear BK239
 clear HB
 have BK239:=n0_
 have HB:=n1_
 clear n0_ n1_
 (try clear hb)
 (try clear hb2)
 (try clear hk)
 (try clear hi)
 refine hK.out _ _ ⟨(zAB BK239.out 0).trans rfl,(zAB BK239.out 1).trans rfl⟩ (fun hHeld=>?_)
 clear hK K
 refine norm_ (a':=?_) ?_ ?_
 rotate_left
 ·show Act.put _ (some 29) _=_
  simp only [Act.put,List.setIfInBounds_toArray,List.set_cons_zero,List.set_cons_succ,zAP,zAQ]
  rfl
 refine one_ (i:=17) (N:=some 30) #[true,true,true,true,true,true,true,true,true,true,true,true,true,true,true,true,true,true,false,false,false,false,false,false,false] rfl rfl (one_of HT_.out (by kernel_rfl)) (by decide) (fun K hK=>?_)
 refine goes_ Tryd.func8 (by kernel_rfl) rfl #[.agg #[.int .i64 t244,.int .u64 t245]] (by rfl) rfl rfl aM_ ?_
 with_reducible refine (zAV.calls k t244 t245 t246 _ ?side1 A9.out).mono ?_
 (case side1=>(first|(with_reducible exact hG)|((repeat (with_reducible first|exact hG|apply GW.drewN|apply GW.drew|apply GW.alloc));done)|exact GW.below hG (aI_ HB.out GE239.out)))
 rintro e w19 ⟨rfl,hb⟩
 refine ⟨_,rfl,?_⟩
 have n0_:=aK_ (zAC (g:=gb239) (o:=.cells #[.int .i64 t236,.int .u64 t237] 27 (0,0)) (aB_ BK239.out) hb)
 have n1_:=aK_ (zAD (aI_ HB.out GE239.out) hb)
 clear BK239
 clear HB
 have BK239:=n0_
 have HB:=n1_
 clear n0_ n1_
 (try clear hb)
 (try clear hb2)
 (try clear hk)
 (try clear hi)
 refine hK.out _ _ ⟨(zAB BK239.out 0).trans rfl,(zAB BK239.out 1).trans rfl⟩ (fun hHeld=>?_)
 clear hK K
 refine norm_ (a':=?_) ?_ ?_
 rotate_left
 ·show Act.put _ (some 30) _=_
  simp only [Act.put,List.setIfInBounds_toArray,List.set_cons_zero,List.set_cons_succ,zAP,zAQ]
  rfl
 refine pure_ (i:=18) (N:=some 31) (v:=?_) (a':=?_) #[true,true,true,true,true,true,true,true,true,true,true,true,true,true,true,true,true,true,true,false,false,false,false,false,false] rfl rfl (zAM HT_.out (by kernel_rfl)) (fun _ _ _ h=>h) (Or.inl ⟨by rfl,?_⟩) ?_ ?_
 rotate_left
 ·intro w'
  go_simp
  with_reducible rfl
 rotate_left
 ·simp only [Act.put,List.setIfInBounds_toArray,List.set_cons_zero,List.set_cons_succ,zAP,zAQ]
  rfl
 refine pure_ (i:=19) (N:=some 32) (v:=?_) (a':=?_) #[true,true,true,true,true,true,true,true,true,true,true,true,true,true,true,true,true,true,true,true,false,false,false,false,false] rfl rfl (zAM HT_.out (by kernel_rfl)) (fun _ _ _ h=>h) (Or.inl ⟨by rfl,?_⟩) ?_ ?_
 rotate_left
 ·intro w'
  go_simp
  with_reducible rfl
 rotate_left
 ·simp only [Act.put,List.setIfInBounds_toArray,List.set_cons_zero,List.set_cons_succ,zAP,zAQ]
  rfl
 refine pure_ (i:=20) (N:=some 33) (v:=?_) (a':=?_) #[true,true,true,true,true,true,true,true,true,true,true,true,true,true,true,true,true,true,true,true,true,false,false,false,false] rfl rfl (zAM HT_.out (by kernel_rfl)) (fun _ _ _ h=>h) (Or.inl ⟨by rfl,?_⟩) ?_ ?_
 rotate_left
 ·intro w'
  go_simp
  with_reducible rfl
 rotate_left
 ·simp only [Act.put,List.setIfInBounds_toArray,List.set_cons_zero,List.set_cons_succ,zAP,zAQ]
  rfl
 refine one_ (i:=21) (N:=some 34) #[true,true,true,true,true,true,true,true,true,true,true,true,true,true,true,true,true,true,true,true,true,true,false,false,false] rfl rfl (one_of HT_.out (by kernel_rfl)) (by decide) (fun K hK=>?_)
 refine goes_ Tryd.func13 (by kernel_rfl) rfl #[.int .i64 (-5)] (by rfl) rfl rfl aM_ ?_
 with_reducible refine (deci_Money.calls k (-5) t247 _ ?side1 A11.out).mono ?_
 (case side1=>(first|(with_reducible exact hG)|((repeat (with_reducible first|exact hG|apply GW.drewN|apply GW.drew|apply GW.alloc));done)|exact GW.below hG (aI_ HB.out GE239.out)))
 rintro e w20 ⟨rfl,hb⟩
 refine ⟨_,rfl,?_⟩
 have n0_:=aK_ (zAC (g:=gb239) (o:=.cells #[.int .i64 t236,.int .u64 t237] 27 (0,0)) (aB_ BK239.out) hb)
 have n1_:=aK_ (zAD (aI_ HB.out GE239.out) hb)
 clear BK239
 clear HB
 have BK239:=n0_
 have HB:=n1_
 clear n0_ n1_
 (try clear hb)
 (try clear hb2)
 (try clear hk)
 (try clear hi)
 refine hK.out _ _ ⟨(zAB BK239.out 0).trans rfl,(zAB BK239.out 1).trans rfl⟩ (fun hHeld=>?_)
 clear hK K
 refine norm_ (a':=?_) ?_ ?_
 rotate_left
 ·show Act.put _ (some 34) _=_
  simp only [Act.put,List.setIfInBounds_toArray,List.set_cons_zero,List.set_cons_succ,zAP,zAQ]
  rfl
 refine pure_ (i:=22) (N:=some 35) (v:=?_) (a':=?_) #[true,true,true,true,true,true,true,true,true,true,true,true,true,true,true,true,true,true,true,true,true,true,true,false,false] rfl rfl (zAM HT_.out (by kernel_rfl)) (fun _ _ _ h=>h) (Or.inl ⟨by rfl,?_⟩) ?_ ?_
 rotate_left
 ·intro w'
  go_simp
  with_reducible rfl
 rotate_left
 ·simp only [Act.put,List.setIfInBounds_toArray,List.set_cons_zero,List.set_cons_succ,zAP,zAQ]
  rfl
 refine pure_ (i:=23) (N:=some 36) (v:=?_) (a':=?_) #[true,true,true,true,true,true,true,true,true,true,true,true,true,true,true,true,true,true,true,true,true,true,true,true,false] rfl rfl (zAM HT_.out (by kernel_rfl)) (fun _ _ _ h=>h) (Or.inl ⟨by rfl,?_⟩) ?_ ?_
 rotate_left
 ·intro w'
  go_simp
  with_reducible rfl
 rotate_left
 ·simp only [Act.put,List.setIfInBounds_toArray,List.set_cons_zero,List.set_cons_succ,zAP,zAQ]
  rfl
 refine pure_ (i:=24) (N:=some 0) (v:=?_) (a':=?_) #[true,true,true,true,true,true,true,true,true,true,true,true,true,true,true,true,true,true,true,true,true,true,true,true,true] rfl rfl (zAM HT_.out (by kernel_rfl)) (fun _ _ _ h=>h) (Or.inl ⟨by rfl,?_⟩) ?_ ?_
 rotate_left
 ·intro w'
  go_simp
  with_reducible rfl
 rotate_left
 ·simp only [Act.put,List.setIfInBounds_toArray,List.set_cons_zero,List.set_cons_succ,zAP,zAQ]
  rfl
 refine done_ (done_of HT_.out (by kernel_rfl)) ?_
 try go_wp2
 go_ret
 exact ⟨by first|rfl|(simp [zAI,zAJ] <;> rfl)|(simp [*,zAI,zAJ] <;> rfl),aI_ HB.out GE239.out⟩
end Go.Proofs.YtkikekiokclmdaaDoor.S

namespace Go.Proofs.YtkikekiokclmdaaDoor.S
open Go.RowKit Go.Proofs.YtkikekiokclmdaaDoorW.PrintWords Go.Proofs.YtkikekiokclmdaaDoorW.PrintLast Go.Proofs.YtkikekiokclmdaaDoorW.PrintMore
attribute [local go_sem] max2_int min2_int max_two min_two max_three min_three max_four min_four
mutual
def zAF.j0:Nat→Bool→Int→Int→Int→Int→Option (Bool)
 |0,_,_,_,_,_=>none
 |k+1,x19,x338000,x338001,x339000,x339001=>if x19=true then (some true) else ((zAV.f k x338000 x338001).bind fun t342=>((zAV.f k x339000 x339001).bind fun t343=>((wide_Neg.f x338000 x338001).bind fun bt344=>(if (t342.size:Int)<(t343.size:Int) then (zAF.j1 k t342 bt344.2.2 true x338000 x338001 x339000 x339001 bt344.1 bt344.2.1) else (if (t342.size:Int)=(t343.size:Int) then (zAF.j1 k t342 bt344.2.2 (Op.bytesLess t342.toList t343.toList) x338000 x338001 x339000 x339001 bt344.1 bt344.2.1) else (zAF.j1 k t342 bt344.2.2 false x338000 x338001 x339000 x339001 bt344.1 bt344.2.1))))))
def zAF.j1:Nat→ByteArray→Int→Bool→Int→Int→Int→Int→Int→Int→Option (Bool)
 |0,_,_,_,_,_,_,_,_,_=>none
 |k+1,x5,x8,x9,x338000,x338001,x339000,x339001,x348000,x348001=>(wide_Cmp.f x338000 x338001 x339000 x339001).bind fun t348=>(if (x9 != (decide (t348<0)))=true then (zAF.j2 k x5 true x338000 x338001 x348000 x348001) else (zAF.j2 k x5 (x8 != 0) x338000 x338001 x348000 x348001))
def zAF.j2:Nat→ByteArray→Bool→Int→Int→Int→Int→Option (Bool)
 |0,_,_,_,_,_,_=>none
 |k+1,x5,x55,x338000,x338001,x348000,x348001=>if x55=true then (some false) else ((wide_Sign.f x338000 x338001).bind fun t349=>(if t349=0 then (if x5.toList=([48]:List UInt8) then (some true) else ((zAV.f k x348000 x348001).bind fun t350=>(if 1+x5.size≤9223372036854775807 then (some (t350.toList == ((⟨#[45]⟩:ByteArray) ++ x5).toList)) else (none)))) else ((zAV.f k x348000 x348001).bind fun t351=>(if 1+x5.size≤9223372036854775807 then (some (t351.toList == ((⟨#[45]⟩:ByteArray) ++ x5).toList)) else (none)))))
end
def zAF.f (k:Nat) (a0_0:Int) (a0_1:Int) (a1_0:Int) (a1_1:Int):Option (Bool):=(zAN.f k).bind fun t339=>(if t339=true then ((wide_Sign.f a0_0 a0_1).bind fun t340=>(if t340<0 then (zAF.j0 k true a0_0 a0_1 a1_0 a1_1) else ((wide_Sign.f a1_0 a1_1).bind fun t341=>(zAF.j0 k (decide (t341<0)) a0_0 a0_1 a1_0 a1_1)))) else (some false))
theorem zAF.mono_l:∀ k,(∀ y0 y1 y2 y3 y4,LeO (zAF.j0 k y0 y1 y2 y3 y4) (zAF.j0 (k+1) y0 y1 y2 y3 y4))∧(∀ y0 y1 y2 y3 y4 y5 y6 y7 y8,LeO (zAF.j1 k y0 y1 y2 y3 y4 y5 y6 y7 y8) (zAF.j1 (k+1) y0 y1 y2 y3 y4 y5 y6 y7 y8))∧(∀ y0 y1 y2 y3 y4 y5,LeO (zAF.j2 k y0 y1 y2 y3 y4 y5) (zAF.j2 (k+1) y0 y1 y2 y3 y4 y5))
 |0=>⟨fun _ _ _ _ _ r h=>by simp [zAF.j0] at h,fun _ _ _ _ _ _ _ _ _ r h=>by simp [zAF.j1] at h,fun _ _ _ _ _ _ r h=>by simp [zAF.j2] at h⟩
 |k+1=>by
  obtain ⟨ih0,ih1,ih2⟩:=zAF.mono_l k
  refine ⟨?_,?_,?_⟩
  ·intro y0 y1 y2 y3 y4
   unfold zAF.j0
   repeat' first
   |(with_reducible exact ih0 _ _ _ _ _)
   |(with_reducible exact ih1 _ _ _ _ _ _ _ _ _)
   |(with_reducible exact ih2 _ _ _ _ _ _)
   |(with_reducible exact zAV.mono _ _ _)
   |(with_reducible exact zAN.mono _)
   |(with_reducible exact LeO.refl _)
   |(with_reducible exact LeO.none _)
   |(with_reducible refine LeO.ite ?_ ?_)
   |(with_reducible refine LeO.bind ?_ (fun _=>?_))
   |exact ih0 _ _ _ _ _
   |exact ih1 _ _ _ _ _ _ _ _ _
   |exact ih2 _ _ _ _ _ _
   |exact zAV.mono _ _ _
   |exact zAN.mono _
   |exact LeO.none _
   |refine LeO.ite ?_ ?_
   |refine LeO.bind ?_ (fun _=>?_)
  ·intro y0 y1 y2 y3 y4 y5 y6 y7 y8
   unfold zAF.j1
   repeat' first
   |(with_reducible exact ih0 _ _ _ _ _)
   |(with_reducible exact ih1 _ _ _ _ _ _ _ _ _)
   |(with_reducible exact ih2 _ _ _ _ _ _)
   |(with_reducible exact zAV.mono _ _ _)
   |(with_reducible exact zAN.mono _)
   |(with_reducible exact LeO.refl _)
   |(with_reducible exact LeO.none _)
   |(with_reducible refine LeO.ite ?_ ?_)
   |(with_reducible refine LeO.bind ?_ (fun _=>?_))
   |exact ih0 _ _ _ _ _
   |exact ih1 _ _ _ _ _ _ _ _ _
   |exact ih2 _ _ _ _ _ _
   |exact zAV.mono _ _ _
   |exact zAN.mono _
   |exact LeO.none _
   |refine LeO.ite ?_ ?_
   |refine LeO.bind ?_ (fun _=>?_)
  ·intro y0 y1 y2 y3 y4 y5
   unfold zAF.j2
   repeat' first
   |(with_reducible exact ih0 _ _ _ _ _)
   |(with_reducible exact ih1 _ _ _ _ _ _ _ _ _)
   |(with_reducible exact ih2 _ _ _ _ _ _)
   |(with_reducible exact zAV.mono _ _ _)
   |(with_reducible exact zAN.mono _)
   |(with_reducible exact LeO.refl _)
   |(with_reducible exact LeO.none _)
   |(with_reducible refine LeO.ite ?_ ?_)
   |(with_reducible refine LeO.bind ?_ (fun _=>?_))
   |exact ih0 _ _ _ _ _
   |exact ih1 _ _ _ _ _ _ _ _ _
   |exact ih2 _ _ _ _ _ _
   |exact zAV.mono _ _ _
   |exact zAN.mono _
   |exact LeO.none _
   |refine LeO.ite ?_ ?_
   |refine LeO.bind ?_ (fun _=>?_)
theorem zAF.mono:∀ a0 a1 a2 a3 k,LeO (zAF.f k a0 a1 a2 a3) (zAF.f (k+1) a0 a1 a2 a3):=by
 intro a0 a1 a2 a3 k
 obtain ⟨ih0,ih1,ih2⟩:=zAF.mono_l k
 unfold zAF.f
 repeat' first
   |(with_reducible exact ih0 _ _ _ _ _)
   |(with_reducible exact ih1 _ _ _ _ _ _ _ _ _)
   |(with_reducible exact ih2 _ _ _ _ _ _)
   |(with_reducible exact zAV.mono _ _ _)
   |(with_reducible exact zAN.mono _)
   |(with_reducible exact LeO.refl _)
   |(with_reducible exact LeO.none _)
   |(with_reducible refine LeO.ite ?_ ?_)
   |(with_reducible refine LeO.bind ?_ (fun _=>?_))
   |exact ih0 _ _ _ _ _
   |exact ih1 _ _ _ _ _ _ _ _ _
   |exact ih2 _ _ _ _ _ _
   |exact zAV.mono _ _ _
   |exact zAN.mono _
   |exact LeO.none _
   |refine LeO.ite ?_ ?_
   |refine LeO.bind ?_ (fun _=>?_)
set_option maxHeartbeats 8000000 in
set_option maxRecDepth 100000 in
theorem zAF.calls (k:Nat) (a0_0:Int) (a0_1:Int) (a1_0:Int) (a1_1:Int) (r:Bool) (w:World) (hG:GW w) (h:zAF.f k a0_0 a0_1 a1_0 a1_1=some r) :
  Calls Tryd.prog 6 #[.agg #[.int .i64 a0_0,.int .u64 a0_1],.agg #[.int .i64 a1_0,.int .u64 a1_1]] w fun e w'=>e = .returned (.bool r)∧Below w.heap.size w w':=by
 have hu27:=Tryd.underlying27
 have HB:=aK_ (Below.refl w.heap.size w)
 have H:((zAN.f k).bind fun t339=>(if t339=true then ((wide_Sign.f a0_0 a0_1).bind fun t340=>(if t340<0 then (zAF.j0 k true a0_0 a0_1 a1_0 a1_1) else ((wide_Sign.f a1_0 a1_1).bind fun t341=>(zAF.j0 k (decide (t341<0)) a0_0 a0_1 a1_0 a1_1)))) else (some false)))=some r:=h
 clear h
 replace H:=Option.bind_eq_some_iff.mp H
 obtain ⟨t339,A30,H⟩:=H
 replace H:(if t339=true then ((wide_Sign.f a0_0 a0_1).bind fun t340=>(if t340<0 then (zAF.j0 k true a0_0 a0_1 a1_0 a1_1) else ((wide_Sign.f a1_0 a1_1).bind fun t341=>(zAF.j0 k (decide (t341<0)) a0_0 a0_1 a1_0 a1_1)))) else (some false))=some r:=H
 have A3:=aK_ A30
 clear A30
 by_cases c4:t339=true
 rotate_left
 ·replace c4:=Bool.eq_false_iff.mpr c4
  subst c4
  have H1:(some false)=some r:=by rw [if_neg (show ¬ (false=true) by decide)] at H;exact H
  clear H
  have H:=H1
  clear H1
  obtain rfl:=Option.some.inj H
  go_enter Tryd.func6,Tryd.ntmps6
  go_wp2_with (first|((with_reducible refine zAT (N:=2) rfl ?_);(try (refine gate_guard (by rfl) ?_;dsimp only));refine zAO ?hg (N:=2) ?hd (cs:=#[.int .i64 a0_0,.int .u64 a0_1]) (t:=27) ?hr ?_;(case hd=>rfl);(case hg=>rfl);(case hr=>first|(go_simp;done)|(go_simp;rfl));intro gb337 hg w79 hbox hb;have n0_:=aK_ (zAD (aH_ HB.out) hb);have n1_:=aK_ (hbox);have n2_:=aK_ ((by rw [hg];exact (zAE (aH_ HB.out)):w.heap.size≤gb337));have n3_:=aK_ ((by rw [hg];exact (zAE (aH_ HB.out)):w.heap.size≤gb337));clear HB;have HB:=n0_;have BK337:=n1_;have GW337:=n2_;have GE337:=n3_;clear n0_ n1_ n2_ n3_;clear hb hbox hg)|((with_reducible refine zAT (N:=3) rfl ?_);(try (refine gate_guard (by rfl) ?_;dsimp only));refine zAO ?hg (N:=3) ?hd (cs:=#[.int .i64 a1_0,.int .u64 a1_1]) (t:=27) ?hr ?_;(case hd=>rfl);(case hg=>rfl);(case hr=>first|(go_simp;done)|(go_simp;rfl));intro gb338 hg w80 hbox hb;have n0_:=aK_ (zAC (g:=gb337) (o:=.cells #[.int .i64 a0_0,.int .u64 a0_1] 27 (0,0)) (aB_ BK337.out) hb);have n1_:=aK_ (zAD (aI_ HB.out GE337.out) hb);have n2_:=aK_ (hbox);have n3_:=aK_ ((by rw [hg];exact (zAE (aI_ HB.out GE337.out)):w.heap.size≤gb338));have n4_:=aK_ ((by rw [hg];exact (zAE (aI_ HB.out GE337.out)):w.heap.size≤gb338));have n5_:=aK_ ((by rw [hg];exact Nat.ne_of_lt (zAH (g:=gb337) (o:=.cells #[.int .i64 a0_0,.int .u64 a0_1] 27 (0,0)) (aB_ BK337.out)):gb337≠gb338));have n6_:=aK_ ((by rw [hg];exact Nat.ne_of_gt (zAH (g:=gb337) (o:=.cells #[.int .i64 a0_0,.int .u64 a0_1] 27 (0,0)) (aB_ BK337.out)):gb338≠gb337));clear BK337;clear HB;have BK337:=n0_;have HB:=n1_;have BK338:=n2_;have GW338:=n3_;have GE338:=n4_;have NB337_338:=n5_;have NB338_337:=n6_;clear n0_ n1_ n2_ n3_ n4_ n5_ n6_;clear hb hbox hg)|((with_reducible refine zAL (f:=7) rfl ?_);refine goesL_ (some 10) rfl rfl Tryd.func7 (by kernel_rfl) rfl #[] rfl aM_ ?_;(with_reducible refine (zAN.calls k  false _ ?side1 A3.out).mono ?_);(case side1=>(first|(with_reducible exact hG)|((repeat (with_reducible first|exact hG|apply GW.drewN|apply GW.drew|apply GW.alloc));done)|exact GW.below hG (aJ_ HB.out GE337.out GE338.out)));rintro e w81 ⟨rfl,hb⟩;refine ⟨_,rfl,?_⟩;have n0_:=aK_ (zAC (g:=gb337) (o:=.cells #[.int .i64 a0_0,.int .u64 a0_1] 27 (0,0)) (aB_ BK337.out) hb);have n1_:=aK_ (zAC (g:=gb338) (o:=.cells #[.int .i64 a1_0,.int .u64 a1_1] 27 (0,0)) (aB_ BK338.out) hb);have n2_:=aK_ (zAD (aJ_ HB.out GE337.out GE338.out) hb);clear BK337;clear BK338;clear HB;have BK337:=n0_;have BK338:=n1_;have HB:=n2_;clear n0_ n1_ n2_;(try clear hb);(try clear hb2);(try clear hk);(try clear hi)))
  go_ret
  exact ⟨by first|rfl|(simp [zAI,zAJ] <;> rfl)|(simp [*,zAI,zAJ] <;> rfl),aJ_ HB.out GE337.out GE338.out⟩
 subst c4
 have H1:((wide_Sign.f a0_0 a0_1).bind fun t340=>(if t340<0 then (zAF.j0 k true a0_0 a0_1 a1_0 a1_1) else ((wide_Sign.f a1_0 a1_1).bind fun t341=>(zAF.j0 k (decide (t341<0)) a0_0 a0_1 a1_0 a1_1))))=some r:=by rw [if_pos rfl] at H;exact H
 clear H
 have H:=H1
 clear H1
 have HC5:=aK_ H
 clear H
 go_enter Tryd.func6,Tryd.ntmps6
 go_upto_region 3 with (first|((with_reducible refine zAT (N:=2) rfl ?_);(try (refine gate_guard (by rfl) ?_;dsimp only));refine zAO ?hg (N:=2) ?hd (cs:=#[.int .i64 a0_0,.int .u64 a0_1]) (t:=27) ?hr ?_;(case hd=>rfl);(case hg=>rfl);(case hr=>first|(go_simp;done)|(go_simp;rfl));intro gb337 hg w6 hbox hb;have n0_:=aK_ (zAD (aH_ HB.out) hb);have n1_:=aK_ (hbox);have n2_:=aK_ ((by rw [hg];exact (zAE (aH_ HB.out)):w.heap.size≤gb337));have n3_:=aK_ ((by rw [hg];exact (zAE (aH_ HB.out)):w.heap.size≤gb337));clear HB;have HB:=n0_;have BK337:=n1_;have GW337:=n2_;have GE337:=n3_;clear n0_ n1_ n2_ n3_;clear hb hbox hg)|((with_reducible refine zAT (N:=3) rfl ?_);(try (refine gate_guard (by rfl) ?_;dsimp only));refine zAO ?hg (N:=3) ?hd (cs:=#[.int .i64 a1_0,.int .u64 a1_1]) (t:=27) ?hr ?_;(case hd=>rfl);(case hg=>rfl);(case hr=>first|(go_simp;done)|(go_simp;rfl));intro gb338 hg w7 hbox hb;have n0_:=aK_ (zAC (g:=gb337) (o:=.cells #[.int .i64 a0_0,.int .u64 a0_1] 27 (0,0)) (aB_ BK337.out) hb);have n1_:=aK_ (zAD (aI_ HB.out GE337.out) hb);have n2_:=aK_ (hbox);have n3_:=aK_ ((by rw [hg];exact (zAE (aI_ HB.out GE337.out)):w.heap.size≤gb338));have n4_:=aK_ ((by rw [hg];exact (zAE (aI_ HB.out GE337.out)):w.heap.size≤gb338));have n5_:=aK_ ((by rw [hg];exact Nat.ne_of_lt (zAH (g:=gb337) (o:=.cells #[.int .i64 a0_0,.int .u64 a0_1] 27 (0,0)) (aB_ BK337.out)):gb337≠gb338));have n6_:=aK_ ((by rw [hg];exact Nat.ne_of_gt (zAH (g:=gb337) (o:=.cells #[.int .i64 a0_0,.int .u64 a0_1] 27 (0,0)) (aB_ BK337.out)):gb338≠gb337));clear BK337;clear HB;have BK337:=n0_;have HB:=n1_;have BK338:=n2_;have GW338:=n3_;have GE338:=n4_;have NB337_338:=n5_;have NB338_337:=n6_;clear n0_ n1_ n2_ n3_ n4_ n5_ n6_;clear hb hbox hg)|((with_reducible refine zAL (f:=7) rfl ?_);refine goesL_ (some 10) rfl rfl Tryd.func7 (by kernel_rfl) rfl #[] rfl aM_ ?_;(with_reducible refine (zAN.calls k  true _ ?side1 A3.out).mono ?_);(case side1=>(first|(with_reducible exact hG)|((repeat (with_reducible first|exact hG|apply GW.drewN|apply GW.drew|apply GW.alloc));done)|exact GW.below hG (aJ_ HB.out GE337.out GE338.out)));rintro e w8 ⟨rfl,hb⟩;refine ⟨_,rfl,?_⟩;have n0_:=aK_ (zAC (g:=gb337) (o:=.cells #[.int .i64 a0_0,.int .u64 a0_1] 27 (0,0)) (aB_ BK337.out) hb);have n1_:=aK_ (zAC (g:=gb338) (o:=.cells #[.int .i64 a1_0,.int .u64 a1_1] 27 (0,0)) (aB_ BK338.out) hb);have n2_:=aK_ (zAD (aJ_ HB.out GE337.out GE338.out) hb);clear BK337;clear BK338;clear HB;have BK337:=n0_;have BK338:=n1_;have HB:=n2_;clear n0_ n1_ n2_;(try clear hb);(try clear hb2);(try clear hk);(try clear hi)))
 (try simp only [Act.put,List.setIfInBounds_toArray,List.set_cons_zero,List.set_cons_succ])
 go_cut [19] (fun v19 wc=>∃ (kq:Nat) (x19_4:Bool),v19 = .bool x19_4∧zAG (zAF.j0 kq x19_4 a0_0 a0_1 a1_0 a1_1=some r)∧zAG (kq≤k)∧zAG (wc.heap[gb337]?=some (.cells #[.int .i64 a0_0,.int .u64 a0_1] 27 (0,0)))∧zAG (wc.heap[gb338]?=some (.cells #[.int .i64 a1_0,.int .u64 a1_1] 27 (0,0)))∧zAG (Below w.heap.size w wc))
 case first =>
  have H:=HC5.out
  clear HC5
  replace H:=Option.bind_eq_some_iff.mp H
  obtain ⟨t340,A90,H⟩:=H
  replace H:(if t340<0 then (zAF.j0 k true a0_0 a0_1 a1_0 a1_1) else ((wide_Sign.f a1_0 a1_1).bind fun t341=>(zAF.j0 k (decide (t341<0)) a0_0 a0_1 a1_0 a1_1)))=some r:=H
  have A9:=aK_ A90
  clear A90
  by_cases c10:t340<0
  ·rw [if_pos c10] at H
   have c10b0:decide (t340<0)=true:=decide_eq_true c10
   clear c10
   (first|rw [c10b0]|(simp only [zAP,zAQ];rw [c10b0])|skip)
   have H':=aK_ H
   clear H
   have hnb11:=NB337_338.out
   have hnc11:=NB338_337.out
   have hcz12_0:w8.cell? ⟨gb337,0,none⟩=some (.int .i64 a0_0):=(zAB BK337.out 0).trans rfl
   have hcz12_1:w8.cell? ⟨gb337,1,none⟩=some (.int .u64 a0_1):=(zAB BK337.out 1).trans rfl
   have hfz12_0:=zAA BK337.out 0
   have hfz12_1:=zAA BK337.out 1
   go_wp2_with (first|((with_reducible refine zAL (f:=14) rfl ?_);refine goesL_ (some 13) rfl rfl Tryd.func14 (by kernel_rfl) rfl #[.agg #[.int .i64 a0_0,.int .u64 a0_1]] rfl aM_ ?_;(with_reducible refine (wide_Sign.calls a0_0 a0_1 t340 _ A9.out).mono ?_);rintro e w13 ⟨rfl,hb⟩;refine ⟨_,rfl,?_⟩;have n0_:=aK_ (zAC (g:=gb337) (o:=.cells #[.int .i64 a0_0,.int .u64 a0_1] 27 (0,0)) (aB_ BK337.out) hb);have n1_:=aK_ (zAC (g:=gb338) (o:=.cells #[.int .i64 a1_0,.int .u64 a1_1] 27 (0,0)) (aB_ BK338.out) hb);have n2_:=aK_ (zAD (aJ_ HB.out GE337.out GE338.out) hb);clear BK337;clear BK338;clear HB;have BK337:=n0_;have BK338:=n1_;have HB:=n2_;clear n0_ n1_ n2_;(try clear hb);(try clear hb2);(try clear hk);(try clear hi)))
   go_meet
   case rel=>exact ⟨_,(true),aS2_,H',⟨by first|omega|exact Nat.le_refl _⟩,⟨aB_ BK337.out⟩,⟨aB_ BK338.out⟩,⟨aJ_ HB.out GE337.out GE338.out⟩⟩
  rw [if_neg c10] at H
  have c10b0:decide (t340<0)=false:=decide_eq_false c10
  clear c10
  (first|rw [c10b0]|(simp only [zAP,zAQ];rw [c10b0])|skip)
  replace H:=Option.bind_eq_some_iff.mp H
  obtain ⟨t341,A140,H⟩:=H
  replace H:(zAF.j0 k (decide (t341<0)) a0_0 a0_1 a1_0 a1_1)=some r:=H
  have A14:=aK_ A140
  clear A140
  have H':=aK_ H
  clear H
  have hnb15:=NB337_338.out
  have hnc15:=NB338_337.out
  have hcz16_0:w8.cell? ⟨gb337,0,none⟩=some (.int .i64 a0_0):=(zAB BK337.out 0).trans rfl
  have hcz16_1:w8.cell? ⟨gb337,1,none⟩=some (.int .u64 a0_1):=(zAB BK337.out 1).trans rfl
  have hfz16_0:=zAA BK337.out 0
  have hfz16_1:=zAA BK337.out 1
  go_wp2_with (first|((with_reducible refine zAL (f:=14) rfl ?_);refine goesL_ (some 13) rfl rfl Tryd.func14 (by kernel_rfl) rfl #[.agg #[.int .i64 a0_0,.int .u64 a0_1]] rfl aM_ ?_;(with_reducible refine (wide_Sign.calls a0_0 a0_1 t340 _ A9.out).mono ?_);rintro e w17 ⟨rfl,hb⟩;refine ⟨_,rfl,?_⟩;have n0_:=aK_ (zAC (g:=gb337) (o:=.cells #[.int .i64 a0_0,.int .u64 a0_1] 27 (0,0)) (aB_ BK337.out) hb);have n1_:=aK_ (zAC (g:=gb338) (o:=.cells #[.int .i64 a1_0,.int .u64 a1_1] 27 (0,0)) (aB_ BK338.out) hb);have n2_:=aK_ (zAD (aJ_ HB.out GE337.out GE338.out) hb);clear BK337;clear BK338;clear HB;have BK337:=n0_;have BK338:=n1_;have HB:=n2_;clear n0_ n1_ n2_;(try clear hb);(try clear hb2);(try clear hk);(try clear hi);have hcz18_0:w17.cell? ⟨gb338,0,none⟩=some (.int .i64 a1_0):=(zAB BK338.out 0).trans rfl;have hcz18_1:w17.cell? ⟨gb338,1,none⟩=some (.int .u64 a1_1):=(zAB BK338.out 1).trans rfl;have hfz18_0:=zAA BK338.out 0;have hfz18_1:=zAA BK338.out 1)|(go_at_call 14;(with_reducible refine (wide_Sign.calls a1_0 a1_1 t341 _ A14.out).mono ?_);rintro e w19 ⟨rfl,hb⟩;have n0_:=aK_ (zAC (g:=gb337) (o:=.cells #[.int .i64 a0_0,.int .u64 a0_1] 27 (0,0)) (aB_ BK337.out) hb);have n1_:=aK_ (zAC (g:=gb338) (o:=.cells #[.int .i64 a1_0,.int .u64 a1_1] 27 (0,0)) (aB_ BK338.out) hb);have n2_:=aK_ (zAD (aJ_ HB.out GE337.out GE338.out) hb);clear BK337;clear BK338;clear HB;have BK337:=n0_;have BK338:=n1_;have HB:=n2_;clear n0_ n1_ n2_;(try clear hb);(try clear hb2);(try clear hk);(try clear hi)))
  go_meet
  case rel=>exact ⟨_,(decide (t341<0)),aS2_,H',⟨by first|omega|exact Nat.le_refl _⟩,⟨aB_ BK337.out⟩,⟨aB_ BK338.out⟩,⟨aJ_ HB.out GE337.out GE338.out⟩⟩
 clear HC5
 try clear c1
 try clear p2
 try clear c4
 try clear c6
 try clear c7
 try clear c10
 try clear c10b0
 try clear c11
 try clear c14
 try clear c15
 try clear hcz12_0
 try clear hcz12_1
 try clear hcz16_0
 try clear hcz16_1
 try clear hcz18_0
 try clear hcz18_1
 try clear hfz12_0
 try clear hfz12_1
 try clear hfz16_0
 try clear hfz16_1
 try clear hfz18_0
 try clear hfz18_1
 obtain ⟨kq,x19_4,rfl,HA,HJ4,BK337,BK338,HB⟩:=hcut
 cases kq with
 |zero=>exact absurd HA.out (by simp [zAF.j0])
 |succ kj4=>?_
 have H:=HA.out
 clear HA
 simp only [zAF.j0] at H
 by_cases c20:x19_4=true
 ·subst c20
  have H1:(some true)=some r:=by rw [if_pos rfl] at H;exact H
  clear H
  have H:=H1
  clear H1
  obtain rfl:=Option.some.inj H
  go_wp2
  go_ret
  exact ⟨by first|rfl|(simp [zAI,zAJ] <;> rfl)|(simp [*,zAI,zAJ] <;> rfl),aJ_ HB.out GE337.out GE338.out⟩
 replace c20:=Bool.eq_false_iff.mpr c20
 subst c20
 have H1:((zAV.f kj4 a0_0 a0_1).bind fun t342=>((zAV.f kj4 a1_0 a1_1).bind fun t343=>((wide_Neg.f a0_0 a0_1).bind fun bt344=>(if (t342.size:Int)<(t343.size:Int) then (zAF.j1 kj4 t342 bt344.2.2 true a0_0 a0_1 a1_0 a1_1 bt344.1 bt344.2.1) else (if (t342.size:Int)=(t343.size:Int) then (zAF.j1 kj4 t342 bt344.2.2 (Op.bytesLess t342.toList t343.toList) a0_0 a0_1 a1_0 a1_1 bt344.1 bt344.2.1) else (zAF.j1 kj4 t342 bt344.2.2 false a0_0 a0_1 a1_0 a1_1 bt344.1 bt344.2.1))))))=some r:=by rw [if_neg (show ¬ (false=true) by decide)] at H;exact H
 clear H
 have H:=H1
 clear H1
 replace H:=Option.bind_eq_some_iff.mp H
 obtain ⟨t342,A210,H⟩:=H
 replace H:((zAV.f kj4 a1_0 a1_1).bind fun t343=>((wide_Neg.f a0_0 a0_1).bind fun bt344=>(if (t342.size:Int)<(t343.size:Int) then (zAF.j1 kj4 t342 bt344.2.2 true a0_0 a0_1 a1_0 a1_1 bt344.1 bt344.2.1) else (if (t342.size:Int)=(t343.size:Int) then (zAF.j1 kj4 t342 bt344.2.2 (Op.bytesLess t342.toList t343.toList) a0_0 a0_1 a1_0 a1_1 bt344.1 bt344.2.1) else (zAF.j1 kj4 t342 bt344.2.2 false a0_0 a0_1 a1_0 a1_1 bt344.1 bt344.2.1)))))=some r:=H
 have A21:=aK_ A210
 clear A210
 replace H:=Option.bind_eq_some_iff.mp H
 obtain ⟨t343,A220,H⟩:=H
 replace H:((wide_Neg.f a0_0 a0_1).bind fun bt344=>(if (t342.size:Int)<(t343.size:Int) then (zAF.j1 kj4 t342 bt344.2.2 true a0_0 a0_1 a1_0 a1_1 bt344.1 bt344.2.1) else (if (t342.size:Int)=(t343.size:Int) then (zAF.j1 kj4 t342 bt344.2.2 (Op.bytesLess t342.toList t343.toList) a0_0 a0_1 a1_0 a1_1 bt344.1 bt344.2.1) else (zAF.j1 kj4 t342 bt344.2.2 false a0_0 a0_1 a1_0 a1_1 bt344.1 bt344.2.1))))=some r:=H
 have A22:=aK_ A220
 clear A220
 replace H:=Option.bind_eq_some_iff.mp H
 obtain ⟨⟨t344,t345,t346⟩,A230,H⟩:=H
 replace H:(if (t342.size:Int)<(t343.size:Int) then (zAF.j1 kj4 t342 t346 true a0_0 a0_1 a1_0 a1_1 t344 t345) else (if (t342.size:Int)=(t343.size:Int) then (zAF.j1 kj4 t342 t346 (Op.bytesLess t342.toList t343.toList) a0_0 a0_1 a1_0 a1_1 t344 t345) else (zAF.j1 kj4 t342 t346 false a0_0 a0_1 a1_0 a1_1 t344 t345)))=some r:=H
 have A23:=aK_ A230
 clear A230
 have HC24:=aK_ H
 clear H
 have hnb25:=NB337_338.out
 have hnc25:=NB338_337.out
 have hcz26_0:wc.cell? ⟨gb337,0,none⟩=some (.int .i64 a0_0):=(zAB BK337.out 0).trans rfl
 have hcz26_1:wc.cell? ⟨gb337,1,none⟩=some (.int .u64 a0_1):=(zAB BK337.out 1).trans rfl
 have hfz26_0:=zAA BK337.out 0
 have hfz26_1:=zAA BK337.out 1
 go_upto_region 8 with (first|((with_reducible refine zAL (f:=8) rfl ?_);refine goesL_ (some 21) rfl rfl Tryd.func8 (by kernel_rfl) rfl #[.agg #[.int .i64 a0_0,.int .u64 a0_1]] rfl aM_ ?_;(with_reducible refine (zAV.calls kj4 a0_0 a0_1 t342 _ ?side1 A21.out).mono ?_);(case side1=>(first|(with_reducible exact hG)|((repeat (with_reducible first|exact hG|apply GW.drewN|apply GW.drew|apply GW.alloc));done)|exact GW.below hG (aJ_ HB.out GE337.out GE338.out)));rintro e w27 ⟨rfl,hb⟩;refine ⟨_,rfl,?_⟩;have n0_:=aK_ (zAC (g:=gb337) (o:=.cells #[.int .i64 a0_0,.int .u64 a0_1] 27 (0,0)) (aB_ BK337.out) hb);have n1_:=aK_ (zAC (g:=gb338) (o:=.cells #[.int .i64 a1_0,.int .u64 a1_1] 27 (0,0)) (aB_ BK338.out) hb);have n2_:=aK_ (zAD (aJ_ HB.out GE337.out GE338.out) hb);clear BK337;clear BK338;clear HB;have BK337:=n0_;have BK338:=n1_;have HB:=n2_;clear n0_ n1_ n2_;(try clear hb);(try clear hb2);(try clear hk);(try clear hi);have hcz28_0:w27.cell? ⟨gb338,0,none⟩=some (.int .i64 a1_0):=(zAB BK338.out 0).trans rfl;have hcz28_1:w27.cell? ⟨gb338,1,none⟩=some (.int .u64 a1_1):=(zAB BK338.out 1).trans rfl;have hfz28_0:=zAA BK338.out 0;have hfz28_1:=zAA BK338.out 1)|((with_reducible refine zAL (f:=8) rfl ?_);refine goesL_ (some 23) rfl rfl Tryd.func8 (by kernel_rfl) rfl #[.agg #[.int .i64 a1_0,.int .u64 a1_1]] rfl aM_ ?_;(with_reducible refine (zAV.calls kj4 a1_0 a1_1 t343 _ ?side1 A22.out).mono ?_);(case side1=>(first|(with_reducible exact hG)|((repeat (with_reducible first|exact hG|apply GW.drewN|apply GW.drew|apply GW.alloc));done)|exact GW.below hG (aJ_ HB.out GE337.out GE338.out)));rintro e w29 ⟨rfl,hb⟩;refine ⟨_,rfl,?_⟩;have n0_:=aK_ (zAC (g:=gb337) (o:=.cells #[.int .i64 a0_0,.int .u64 a0_1] 27 (0,0)) (aB_ BK337.out) hb);have n1_:=aK_ (zAC (g:=gb338) (o:=.cells #[.int .i64 a1_0,.int .u64 a1_1] 27 (0,0)) (aB_ BK338.out) hb);have n2_:=aK_ (zAD (aJ_ HB.out GE337.out GE338.out) hb);clear BK337;clear BK338;clear HB;have BK337:=n0_;have BK338:=n1_;have HB:=n2_;clear n0_ n1_ n2_;(try clear hb);(try clear hb2);(try clear hk);(try clear hi);have hcz30_0:w29.cell? ⟨gb337,0,none⟩=some (.int .i64 a0_0):=(zAB BK337.out 0).trans rfl;have hcz30_1:w29.cell? ⟨gb337,1,none⟩=some (.int .u64 a0_1):=(zAB BK337.out 1).trans rfl;have hfz30_0:=zAA BK337.out 0;have hfz30_1:=zAA BK337.out 1)|((with_reducible refine zAL (f:=15) rfl ?_);refine goesL_ (some 26) rfl rfl Tryd.func15 (by kernel_rfl) rfl #[.agg #[.int .i64 a0_0,.int .u64 a0_1]] rfl aM_ ?_;(with_reducible refine (wide_Neg.calls a0_0 a0_1 t344 t345 t346 _ A23.out).mono ?_);rintro e w31 ⟨rfl,hb⟩;refine ⟨_,rfl,?_⟩;have n0_:=aK_ (zAC (g:=gb337) (o:=.cells #[.int .i64 a0_0,.int .u64 a0_1] 27 (0,0)) (aB_ BK337.out) hb);have n1_:=aK_ (zAC (g:=gb338) (o:=.cells #[.int .i64 a1_0,.int .u64 a1_1] 27 (0,0)) (aB_ BK338.out) hb);have n2_:=aK_ (zAD (aJ_ HB.out GE337.out GE338.out) hb);clear BK337;clear BK338;clear HB;have BK337:=n0_;have BK338:=n1_;have HB:=n2_;clear n0_ n1_ n2_;(try clear hb);(try clear hb2);(try clear hk);(try clear hi))|((with_reducible refine zAT (N:=7) rfl ?_);(try (refine gate_guard (by rfl) ?_;dsimp only));refine zAO ?hg (N:=7) ?hd (cs:=#[.int .i64 0,.int .u64 0]) (t:=27) ?hr ?_;(case hd=>rfl);(case hg=>rfl);(case hr=>first|(go_simp;done)|(go_simp;rfl));intro gb347 hg w32 hbox hb;have n0_:=aK_ (zAC (g:=gb337) (o:=.cells #[.int .i64 a0_0,.int .u64 a0_1] 27 (0,0)) (aB_ BK337.out) hb);have n1_:=aK_ (zAC (g:=gb338) (o:=.cells #[.int .i64 a1_0,.int .u64 a1_1] 27 (0,0)) (aB_ BK338.out) hb);have n2_:=aK_ (zAD (aJ_ HB.out GE337.out GE338.out) hb);have n3_:=aK_ (hbox);have n4_:=aK_ ((by rw [hg];exact (zAE (aJ_ HB.out GE337.out GE338.out)):w.heap.size≤gb347));have n5_:=aK_ ((by rw [hg];exact (zAE (aJ_ HB.out GE337.out GE338.out)):w.heap.size≤gb347));have n6_:=aK_ ((by rw [hg];exact Nat.ne_of_lt (zAH (g:=gb337) (o:=.cells #[.int .i64 a0_0,.int .u64 a0_1] 27 (0,0)) (aB_ BK337.out)):gb337≠gb347));have n7_:=aK_ ((by rw [hg];exact Nat.ne_of_gt (zAH (g:=gb337) (o:=.cells #[.int .i64 a0_0,.int .u64 a0_1] 27 (0,0)) (aB_ BK337.out)):gb347≠gb337));have n8_:=aK_ ((by rw [hg];exact Nat.ne_of_lt (zAH (g:=gb338) (o:=.cells #[.int .i64 a1_0,.int .u64 a1_1] 27 (0,0)) (aB_ BK338.out)):gb338≠gb347));have n9_:=aK_ ((by rw [hg];exact Nat.ne_of_gt (zAH (g:=gb338) (o:=.cells #[.int .i64 a1_0,.int .u64 a1_1] 27 (0,0)) (aB_ BK338.out)):gb347≠gb338));clear BK337;clear BK338;clear HB;have BK337:=n0_;have BK338:=n1_;have HB:=n2_;have BK347:=n3_;have GW347:=n4_;have GE347:=n5_;have NB337_347:=n6_;have NB347_337:=n7_;have NB338_347:=n8_;have NB347_338:=n9_;clear n0_ n1_ n2_ n3_ n4_ n5_ n6_ n7_ n8_ n9_;clear hb hbox hg;have hnb33:=NB347_337.out;have hnc33:=NB337_347.out;have hnb34:=NB347_338.out;have hnc34:=NB338_347.out;have hcz35_0:w32.cell? ⟨gb347,0,none⟩=some (.int .i64 0):=(zAB BK347.out 0).trans rfl;have hcz35_1:w32.cell? ⟨gb347,1,none⟩=some (.int .u64 0):=(zAB BK347.out 1).trans rfl;have hfz35_0:=zAA BK347.out 0;have hfz35_1:=zAA BK347.out 1))
 (try simp only [Act.put,List.setIfInBounds_toArray,List.set_cons_zero,List.set_cons_succ])
 go_cut [9] (fun v9 wc=>∃ (kq:Nat) (x9_23:Bool),v9 = .bool x9_23∧zAG (zAF.j1 kq t342 t346 x9_23 a0_0 a0_1 a1_0 a1_1 t344 t345=some r)∧zAG (kq≤kj4)∧zAG (wc.heap[gb337]?=some (.cells #[.int .i64 a0_0,.int .u64 a0_1] 27 (0,0)))∧zAG (wc.heap[gb338]?=some (.cells #[.int .i64 a1_0,.int .u64 a1_1] 27 (0,0)))∧zAG (wc.heap[gb347]?=some (.cells #[.int .i64 t344,.int .u64 t345] 27 (0,0)))∧zAG (Below w.heap.size w wc))
 case first =>
  have H:=HC24.out
  clear HC24
  by_cases c36:(t342.size:Int)<(t343.size:Int)
  ·rw [if_pos c36] at H
   have c36b0:decide ((t342.size:Int)<(t343.size:Int))=true:=decide_eq_true c36
   have c36b1:decide (t342.size<t343.size)=true:=decide_eq_true (Int.ofNat_lt.mp c36)
   clear c36
   (first|rw [c36b0]|(simp only [zAP,zAQ];rw [c36b0])|skip)
   have H':=aK_ H
   clear H
   go_wp2
   go_meet
   case rel=>exact ⟨_,(true),aS2_,H',⟨by have:=HJ4.out;first|omega|exact Nat.le_refl _⟩,⟨by refine aB_ ?_;refine zAW ?_ NB337_347.out _;refine aB_ ?_;refine zAW ?_ NB337_347.out _;refine aB_ ?_;exact BK337.out⟩,⟨by refine aB_ ?_;refine zAW ?_ NB338_347.out _;refine aB_ ?_;refine zAW ?_ NB338_347.out _;refine aB_ ?_;exact BK338.out⟩,⟨by refine aB_ ?_;refine zAX (cs:=#[.int .i64 t344,.int .u64 0]) ?_ 1 _ rfl;refine aB_ ?_;refine zAX (cs:=#[.int .i64 0,.int .u64 0]) ?_ 0 _ rfl;refine aB_ ?_;exact BK347.out⟩,⟨aQ_ HB.out GE337.out GE338.out GE347.out⟩⟩
  rw [if_neg c36] at H
  have c36b0:decide ((t342.size:Int)<(t343.size:Int))=false:=decide_eq_false c36
  have c36b1:decide (t342.size<t343.size)=false:=decide_eq_false (fun h=>c36 (Int.ofNat_lt.mpr h))
  clear c36
  (first|rw [c36b0]|(simp only [zAP,zAQ];rw [c36b0])|skip)
  by_cases c37:(t342.size:Int)=(t343.size:Int)
  rotate_left
  ·rw [if_neg c37] at H
   have c37b0:((t342.size:Int) == (t343.size:Int))=false:=beq_eq_false_iff_ne.mpr c37
   have c37b1:((t342.size:Int) != (t343.size:Int))=true:=bne_iff_ne.mpr c37
   have c37b2:(t342.size == t343.size)=false:=by first|simpa using c37|(simp at c37 ⊢;omega)
   have H':=aK_ H
   clear H
   go_wp2
   go_meet
   case rel=>exact ⟨_,(false),aS2_,H',⟨by have:=HJ4.out;first|omega|exact Nat.le_refl _⟩,⟨by refine aB_ ?_;refine zAW ?_ NB337_347.out _;refine aB_ ?_;refine zAW ?_ NB337_347.out _;refine aB_ ?_;exact BK337.out⟩,⟨by refine aB_ ?_;refine zAW ?_ NB338_347.out _;refine aB_ ?_;refine zAW ?_ NB338_347.out _;refine aB_ ?_;exact BK338.out⟩,⟨by refine aB_ ?_;refine zAX (cs:=#[.int .i64 t344,.int .u64 0]) ?_ 1 _ rfl;refine aB_ ?_;refine zAX (cs:=#[.int .i64 0,.int .u64 0]) ?_ 0 _ rfl;refine aB_ ?_;exact BK347.out⟩,⟨aQ_ HB.out GE337.out GE338.out GE347.out⟩⟩
  rw [if_pos c37] at H
  have c37b0:((t342.size:Int) == (t343.size:Int))=true:=beq_iff_eq.mpr c37
  have c37b1:((t342.size:Int) != (t343.size:Int))=false:=bne_eq_false_iff_eq.mpr c37
  have c37b2:(t342.size == t343.size)=true:=by first|simpa using c37|(simp at c37 ⊢;omega)
  clear c37
  have H':=aK_ H
  clear H
  go_wp2
  go_meet
  case rel=>exact ⟨_,((Op.bytesLess t342.toList t343.toList)),aS2_,H',⟨by have:=HJ4.out;first|omega|exact Nat.le_refl _⟩,⟨by refine aB_ ?_;refine zAW ?_ NB337_347.out _;refine aB_ ?_;refine zAW ?_ NB337_347.out _;refine aB_ ?_;exact BK337.out⟩,⟨by refine aB_ ?_;refine zAW ?_ NB338_347.out _;refine aB_ ?_;refine zAW ?_ NB338_347.out _;refine aB_ ?_;exact BK338.out⟩,⟨by refine aB_ ?_;refine zAX (cs:=#[.int .i64 t344,.int .u64 0]) ?_ 1 _ rfl;refine aB_ ?_;refine zAX (cs:=#[.int .i64 0,.int .u64 0]) ?_ 0 _ rfl;refine aB_ ?_;exact BK347.out⟩,⟨aQ_ HB.out GE337.out GE338.out GE347.out⟩⟩
 clear HC24
 try clear c1
 try clear c2
 try clear p2
 try clear c3
 try clear c4
 try clear c6
 try clear c7
 try clear c8
 try clear c10
 try clear c10b0
 try clear c11
 try clear c14
 try clear c15
 try clear c20
 try clear c25
 try clear c33
 try clear c34
 try clear c36
 try clear c36b0
 try clear c36b1
 try clear c37
 try clear c37b0
 try clear c37b1
 try clear c37b2
 try clear hcz12_0
 try clear hcz12_1
 try clear hcz16_0
 try clear hcz16_1
 try clear hcz18_0
 try clear hcz18_1
 try clear hcz26_0
 try clear hcz26_1
 try clear hcz28_0
 try clear hcz28_1
 try clear hcz30_0
 try clear hcz30_1
 try clear hcz35_0
 try clear hcz35_1
 try clear hfz12_0
 try clear hfz12_1
 try clear hfz16_0
 try clear hfz16_1
 try clear hfz18_0
 try clear hfz18_1
 try clear hfz26_0
 try clear hfz26_1
 try clear hfz28_0
 try clear hfz28_1
 try clear hfz30_0
 try clear hfz30_1
 try clear hfz35_0
 try clear hfz35_1
 try clear p2
 obtain ⟨kq,x9_23,rfl,HA,HJ23,BK337,BK338,BK347,HB⟩:=hcut
 cases kq with
 |zero=>exact absurd HA.out (by simp [zAF.j1])
 |succ kj23=>?_
 have H:=HA.out
 clear HA
 simp only [zAF.j1] at H
 have HC38:=aK_ H
 clear H
 go_upto_region 9 with (fail)
 go_cut [55] (fun v55 wc=>∃ (kq:Nat) (x55_37:Bool),v55 = .bool x55_37∧zAG (zAF.j2 kq t342 x55_37 a0_0 a0_1 t344 t345=some r)∧zAG (kq≤kj23)∧zAG (wc.heap[gb337]?=some (.cells #[.int .i64 a0_0,.int .u64 a0_1] 27 (0,0)))∧zAG (wc.heap[gb338]?=some (.cells #[.int .i64 a1_0,.int .u64 a1_1] 27 (0,0)))∧zAG (wc.heap[gb347]?=some (.cells #[.int .i64 t344,.int .u64 t345] 27 (0,0)))∧zAG (Below w.heap.size w wc))
 case first =>
  have H:=HC38.out
  clear HC38
  replace H:=Option.bind_eq_some_iff.mp H
  obtain ⟨t348,A390,H⟩:=H
  replace H:(if (x9_23 != (decide (t348<0)))=true then (zAF.j2 kj23 t342 true a0_0 a0_1 t344 t345) else (zAF.j2 kj23 t342 (t346 != 0) a0_0 a0_1 t344 t345))=some r:=H
  have A39:=aK_ A390
  clear A390
  by_cases c40:(x9_23 != (decide (t348<0)))=true
  rotate_left
  ·rw [if_neg c40] at H
   have c40b0:(x9_23 != (decide (t348<0)))=false:=by simpa using c40
   (try (have c40b1:decide (x9_23=(decide (t348<0)))=true:=by simpa using c40))
   (try (have c40b2:(x9_23 == (decide (t348<0)))=true:=by simpa using c40))
   clear c40
   (first|rw [c40b0]|(simp only [zAP,zAQ];rw [c40b0])|skip)
   have H':=aK_ H
   clear H
   have hnb47:=NB337_338.out
   have hnc47:=NB338_337.out
   have hnb48:=NB337_347.out
   have hnc48:=NB347_337.out
   have hcz49_0:wc.cell? ⟨gb337,0,none⟩=some (.int .i64 a0_0):=(zAB BK337.out 0).trans rfl
   have hcz49_1:wc.cell? ⟨gb337,1,none⟩=some (.int .u64 a0_1):=(zAB BK337.out 1).trans rfl
   have hfz49_0:=zAA BK337.out 0
   have hfz49_1:=zAA BK337.out 1
   have hnb50:=NB338_347.out
   have hnc50:=NB347_338.out
   have hcz51_0:wc.cell? ⟨gb338,0,none⟩=some (.int .i64 a1_0):=(zAB BK338.out 0).trans rfl
   have hcz51_1:wc.cell? ⟨gb338,1,none⟩=some (.int .u64 a1_1):=(zAB BK338.out 1).trans rfl
   have hfz51_0:=zAA BK338.out 0
   have hfz51_1:=zAA BK338.out 1
   go_wp2_with (first|((with_reducible refine zAL (f:=16) rfl ?_);refine goesL_ (some 49) rfl rfl Tryd.func16 (by kernel_rfl) rfl #[.agg #[.int .i64 a0_0,.int .u64 a0_1],.agg #[.int .i64 a1_0,.int .u64 a1_1]] rfl aM_ ?_;(with_reducible refine (wide_Cmp.calls a0_0 a0_1 a1_0 a1_1 t348 _ A39.out).mono ?_);rintro e w52 ⟨rfl,hb⟩;refine ⟨_,rfl,?_⟩;have n0_:=aK_ (zAC (g:=gb337) (o:=.cells #[.int .i64 a0_0,.int .u64 a0_1] 27 (0,0)) (aB_ BK337.out) hb);have n1_:=aK_ (zAC (g:=gb338) (o:=.cells #[.int .i64 a1_0,.int .u64 a1_1] 27 (0,0)) (aB_ BK338.out) hb);have n2_:=aK_ (zAC (g:=gb347) (o:=.cells #[.int .i64 t344,.int .u64 t345] 27 (0,0)) (aB_ BK347.out) hb);have n3_:=aK_ (zAD (aQ_ HB.out GE337.out GE338.out GE347.out) hb);clear BK337;clear BK338;clear BK347;clear HB;have BK337:=n0_;have BK338:=n1_;have BK347:=n2_;have HB:=n3_;clear n0_ n1_ n2_ n3_;(try clear hb);(try clear hb2);(try clear hk);(try clear hi)))
   go_meet
   case rel=>exact ⟨_,((t346 != 0)),aS2_,H',⟨by have:=HJ4.out;have:=HJ23.out;first|omega|exact Nat.le_refl _⟩,⟨aB_ BK337.out⟩,⟨aB_ BK338.out⟩,⟨aB_ BK347.out⟩,⟨aQ_ HB.out GE337.out GE338.out GE347.out⟩⟩
  rw [if_pos c40] at H
  have c40b0:(x9_23 != (decide (t348<0)))=true:=c40
  (try (have c40b1:decide (x9_23=(decide (t348<0)))=false:=by simpa using c40))
  (try (have c40b2:(x9_23 == (decide (t348<0)))=false:=by simpa using c40))
  (try (have c40b3 : ¬ (x9_23=(decide (t348<0))):=by simpa using c40))
  clear c40
  (first|rw [c40b0]|(simp only [zAP,zAQ];rw [c40b0])|skip)
  have H':=aK_ H
  clear H
  have hnb41:=NB337_338.out
  have hnc41:=NB338_337.out
  have hnb42:=NB337_347.out
  have hnc42:=NB347_337.out
  have hcz43_0:wc.cell? ⟨gb337,0,none⟩=some (.int .i64 a0_0):=(zAB BK337.out 0).trans rfl
  have hcz43_1:wc.cell? ⟨gb337,1,none⟩=some (.int .u64 a0_1):=(zAB BK337.out 1).trans rfl
  have hfz43_0:=zAA BK337.out 0
  have hfz43_1:=zAA BK337.out 1
  have hnb44:=NB338_347.out
  have hnc44:=NB347_338.out
  have hcz45_0:wc.cell? ⟨gb338,0,none⟩=some (.int .i64 a1_0):=(zAB BK338.out 0).trans rfl
  have hcz45_1:wc.cell? ⟨gb338,1,none⟩=some (.int .u64 a1_1):=(zAB BK338.out 1).trans rfl
  have hfz45_0:=zAA BK338.out 0
  have hfz45_1:=zAA BK338.out 1
  go_wp2_with (first|((with_reducible refine zAL (f:=16) rfl ?_);refine goesL_ (some 49) rfl rfl Tryd.func16 (by kernel_rfl) rfl #[.agg #[.int .i64 a0_0,.int .u64 a0_1],.agg #[.int .i64 a1_0,.int .u64 a1_1]] rfl aM_ ?_;(with_reducible refine (wide_Cmp.calls a0_0 a0_1 a1_0 a1_1 t348 _ A39.out).mono ?_);rintro e w46 ⟨rfl,hb⟩;refine ⟨_,rfl,?_⟩;have n0_:=aK_ (zAC (g:=gb337) (o:=.cells #[.int .i64 a0_0,.int .u64 a0_1] 27 (0,0)) (aB_ BK337.out) hb);have n1_:=aK_ (zAC (g:=gb338) (o:=.cells #[.int .i64 a1_0,.int .u64 a1_1] 27 (0,0)) (aB_ BK338.out) hb);have n2_:=aK_ (zAC (g:=gb347) (o:=.cells #[.int .i64 t344,.int .u64 t345] 27 (0,0)) (aB_ BK347.out) hb);have n3_:=aK_ (zAD (aQ_ HB.out GE337.out GE338.out GE347.out) hb);clear BK337;clear BK338;clear BK347;clear HB;have BK337:=n0_;have BK338:=n1_;have BK347:=n2_;have HB:=n3_;clear n0_ n1_ n2_ n3_;(try clear hb);(try clear hb2);(try clear hk);(try clear hi)))
  go_meet
  case rel=>exact ⟨_,(true),aS2_,H',⟨by have:=HJ4.out;have:=HJ23.out;first|omega|exact Nat.le_refl _⟩,⟨aB_ BK337.out⟩,⟨aB_ BK338.out⟩,⟨aB_ BK347.out⟩,⟨aQ_ HB.out GE337.out GE338.out GE347.out⟩⟩
 clear HC38
 try clear c1
 try clear c2
 try clear p2
 try clear c3
 try clear c4
 try clear c5
 try clear c6
 try clear c7
 try clear c8
 try clear c10
 try clear c10b0
 try clear c11
 try clear c14
 try clear c15
 try clear c16
 try clear c20
 try clear c25
 try clear c33
 try clear c34
 try clear c36
 try clear c36b0
 try clear c36b1
 try clear c37
 try clear c37b0
 try clear c37b1
 try clear c37b2
 try clear c40
 try clear c40b0
 try clear c40b1
 try clear c40b2
 try clear c41
 try clear c42
 try clear c44
 try clear c47
 try clear c48
 try clear c50
 try clear hcz12_0
 try clear hcz12_1
 try clear hcz16_0
 try clear hcz16_1
 try clear hcz18_0
 try clear hcz18_1
 try clear hcz26_0
 try clear hcz26_1
 try clear hcz28_0
 try clear hcz28_1
 try clear hcz30_0
 try clear hcz30_1
 try clear hcz35_0
 try clear hcz35_1
 try clear hcz43_0
 try clear hcz43_1
 try clear hcz45_0
 try clear hcz45_1
 try clear hcz49_0
 try clear hcz49_1
 try clear hcz51_0
 try clear hcz51_1
 try clear hfz12_0
 try clear hfz12_1
 try clear hfz16_0
 try clear hfz16_1
 try clear hfz18_0
 try clear hfz18_1
 try clear hfz26_0
 try clear hfz26_1
 try clear hfz28_0
 try clear hfz28_1
 try clear hfz30_0
 try clear hfz30_1
 try clear hfz35_0
 try clear hfz35_1
 try clear hfz43_0
 try clear hfz43_1
 try clear hfz45_0
 try clear hfz45_1
 try clear hfz49_0
 try clear hfz49_1
 try clear hfz51_0
 try clear hfz51_1
 try clear p2
 obtain ⟨kq,x55_37,rfl,HA,HJ37,BK337,BK338,BK347,HB⟩:=hcut
 cases kq with
 |zero=>exact absurd HA.out (by simp [zAF.j2])
 |succ kj37=>?_
 have H:=HA.out
 clear HA
 simp only [zAF.j2] at H
 by_cases c53:x55_37=true
 ·subst c53
  have H1:(some false)=some r:=by rw [if_pos rfl] at H;exact H
  clear H
  have H:=H1
  clear H1
  obtain rfl:=Option.some.inj H
  go_wp2
  go_ret
  exact ⟨by first|rfl|(simp [zAI,zAJ] <;> rfl)|(simp [*,zAI,zAJ] <;> rfl),aQ_ HB.out GE337.out GE338.out GE347.out⟩
 replace c53:=Bool.eq_false_iff.mpr c53
 subst c53
 have H1:((wide_Sign.f a0_0 a0_1).bind fun t349=>(if t349=0 then (if t342.toList=([48]:List UInt8) then (some true) else ((zAV.f kj37 t344 t345).bind fun t350=>(if 1+t342.size≤9223372036854775807 then (some (t350.toList == ((⟨#[45]⟩:ByteArray) ++ t342).toList)) else (none)))) else ((zAV.f kj37 t344 t345).bind fun t351=>(if 1+t342.size≤9223372036854775807 then (some (t351.toList == ((⟨#[45]⟩:ByteArray) ++ t342).toList)) else (none)))))=some r:=by rw [if_neg (show ¬ (false=true) by decide)] at H;exact H
 clear H
 have H:=H1
 clear H1
 replace H:=Option.bind_eq_some_iff.mp H
 obtain ⟨t349,A540,H⟩:=H
 replace H:(if t349=0 then (if t342.toList=([48]:List UInt8) then (some true) else ((zAV.f kj37 t344 t345).bind fun t350=>(if 1+t342.size≤9223372036854775807 then (some (t350.toList == ((⟨#[45]⟩:ByteArray) ++ t342).toList)) else (none)))) else ((zAV.f kj37 t344 t345).bind fun t351=>(if 1+t342.size≤9223372036854775807 then (some (t351.toList == ((⟨#[45]⟩:ByteArray) ++ t342).toList)) else (none))))=some r:=H
 have A54:=aK_ A540
 clear A540
 by_cases c55:t349=0
 rotate_left
 ·rw [if_neg c55] at H
  have c55b0:(t349 == 0)=false:=beq_eq_false_iff_ne.mpr c55
  have c55b1:(t349 != 0)=true:=bne_iff_ne.mpr c55
  replace H:=Option.bind_eq_some_iff.mp H
  obtain ⟨t351,A700,H⟩:=H
  replace H:(if 1+t342.size≤9223372036854775807 then (some (t351.toList == ((⟨#[45]⟩:ByteArray) ++ t342).toList)) else (none))=some r:=H
  have A70:=aK_ A700
  clear A700
  have c71:=yes_ H
  rw [if_pos c71] at H
  have c71b0:=eq_true c71
  have c71b1:decide (1+t342.size≤9223372036854775807)=true:=decide_eq_true c71
  try have c71b2:(9223372036854775807<1+t342.size)=False:=eq_false (Nat.not_lt.2 c71)
  obtain rfl:=Option.some.inj H
  have hnb72:=NB337_338.out
  have hnc72:=NB338_337.out
  have hnb73:=NB337_347.out
  have hnc73:=NB347_337.out
  have hcz74_0:wc.cell? ⟨gb337,0,none⟩=some (.int .i64 a0_0):=(zAB BK337.out 0).trans rfl
  have hcz74_1:wc.cell? ⟨gb337,1,none⟩=some (.int .u64 a0_1):=(zAB BK337.out 1).trans rfl
  have hfz74_0:=zAA BK337.out 0
  have hfz74_1:=zAA BK337.out 1
  go_wp2_with (first|((with_reducible refine zAL (f:=14) rfl ?_);refine goesL_ (some 57) rfl rfl Tryd.func14 (by kernel_rfl) rfl #[.agg #[.int .i64 a0_0,.int .u64 a0_1]] rfl aM_ ?_;(with_reducible refine (wide_Sign.calls a0_0 a0_1 t349 _ A54.out).mono ?_);rintro e w75 ⟨rfl,hb⟩;refine ⟨_,rfl,?_⟩;have n0_:=aK_ (zAC (g:=gb337) (o:=.cells #[.int .i64 a0_0,.int .u64 a0_1] 27 (0,0)) (aB_ BK337.out) hb);have n1_:=aK_ (zAC (g:=gb338) (o:=.cells #[.int .i64 a1_0,.int .u64 a1_1] 27 (0,0)) (aB_ BK338.out) hb);have n2_:=aK_ (zAC (g:=gb347) (o:=.cells #[.int .i64 t344,.int .u64 t345] 27 (0,0)) (aB_ BK347.out) hb);have n3_:=aK_ (zAD (aQ_ HB.out GE337.out GE338.out GE347.out) hb);clear BK337;clear BK338;clear BK347;clear HB;have BK337:=n0_;have BK338:=n1_;have BK347:=n2_;have HB:=n3_;clear n0_ n1_ n2_ n3_;(try clear hb);(try clear hb2);(try clear hk);(try clear hi);have hnb76:=NB347_338.out;have hnc76:=NB338_347.out;have hcz77_0:w75.cell? ⟨gb347,0,none⟩=some (.int .i64 t344):=(zAB BK347.out 0).trans rfl;have hcz77_1:w75.cell? ⟨gb347,1,none⟩=some (.int .u64 t345):=(zAB BK347.out 1).trans rfl;have hfz77_0:=zAA BK347.out 0;have hfz77_1:=zAA BK347.out 1)|(go_at_call 8;(with_reducible refine (zAV.calls kj37 t344 t345 t351 _ ?side1 A70.out).mono ?_);(case side1=>(first|(with_reducible exact hG)|((repeat (with_reducible first|exact hG|apply GW.drewN|apply GW.drew|apply GW.alloc));done)|exact GW.below hG (aQ_ HB.out GE337.out GE338.out GE347.out)));rintro e w78 ⟨rfl,hb⟩;have n0_:=aK_ (zAC (g:=gb337) (o:=.cells #[.int .i64 a0_0,.int .u64 a0_1] 27 (0,0)) (aB_ BK337.out) hb);have n1_:=aK_ (zAC (g:=gb338) (o:=.cells #[.int .i64 a1_0,.int .u64 a1_1] 27 (0,0)) (aB_ BK338.out) hb);have n2_:=aK_ (zAC (g:=gb347) (o:=.cells #[.int .i64 t344,.int .u64 t345] 27 (0,0)) (aB_ BK347.out) hb);have n3_:=aK_ (zAD (aQ_ HB.out GE337.out GE338.out GE347.out) hb);clear BK337;clear BK338;clear BK347;clear HB;have BK337:=n0_;have BK338:=n1_;have BK347:=n2_;have HB:=n3_;clear n0_ n1_ n2_ n3_;(try clear hb);(try clear hb2);(try clear hk);(try clear hi)))
  go_ret
  exact ⟨by first|rfl|(simp [zAI,zAJ] <;> rfl)|(simp [*,zAI,zAJ] <;> rfl),aQ_ HB.out GE337.out GE338.out GE347.out⟩
 rw [if_pos c55] at H
 have c55b0:(t349 == 0)=true:=beq_iff_eq.mpr c55
 have c55b1:(t349 != 0)=false:=bne_eq_false_iff_eq.mpr c55
 clear c55
 by_cases c56:t342.toList=([48]:List UInt8)
 ·rw [if_pos c56] at H
  have c56b0:(t342.toList == ([48]:List UInt8))=true:=beq_iff_eq.mpr c56
  have c56b1:(t342.toList != ([48]:List UInt8))=false:=bne_eq_false_iff_eq.mpr c56
  clear c56
  obtain rfl:=Option.some.inj H
  have hnb57:=NB337_338.out
  have hnc57:=NB338_337.out
  have hnb58:=NB337_347.out
  have hnc58:=NB347_337.out
  have hcz59_0:wc.cell? ⟨gb337,0,none⟩=some (.int .i64 a0_0):=(zAB BK337.out 0).trans rfl
  have hcz59_1:wc.cell? ⟨gb337,1,none⟩=some (.int .u64 a0_1):=(zAB BK337.out 1).trans rfl
  have hfz59_0:=zAA BK337.out 0
  have hfz59_1:=zAA BK337.out 1
  go_wp2_with (first|((with_reducible refine zAL (f:=14) rfl ?_);refine goesL_ (some 57) rfl rfl Tryd.func14 (by kernel_rfl) rfl #[.agg #[.int .i64 a0_0,.int .u64 a0_1]] rfl aM_ ?_;(with_reducible refine (wide_Sign.calls a0_0 a0_1 t349 _ A54.out).mono ?_);rintro e w60 ⟨rfl,hb⟩;refine ⟨_,rfl,?_⟩;have n0_:=aK_ (zAC (g:=gb337) (o:=.cells #[.int .i64 a0_0,.int .u64 a0_1] 27 (0,0)) (aB_ BK337.out) hb);have n1_:=aK_ (zAC (g:=gb338) (o:=.cells #[.int .i64 a1_0,.int .u64 a1_1] 27 (0,0)) (aB_ BK338.out) hb);have n2_:=aK_ (zAC (g:=gb347) (o:=.cells #[.int .i64 t344,.int .u64 t345] 27 (0,0)) (aB_ BK347.out) hb);have n3_:=aK_ (zAD (aQ_ HB.out GE337.out GE338.out GE347.out) hb);clear BK337;clear BK338;clear BK347;clear HB;have BK337:=n0_;have BK338:=n1_;have BK347:=n2_;have HB:=n3_;clear n0_ n1_ n2_ n3_;(try clear hb);(try clear hb2);(try clear hk);(try clear hi)))
  go_ret
  exact ⟨by first|rfl|(simp [zAI,zAJ] <;> rfl)|(simp [*,zAI,zAJ] <;> rfl),aQ_ HB.out GE337.out GE338.out GE347.out⟩
 rw [if_neg c56] at H
 have c56b0:(t342.toList == ([48]:List UInt8))=false:=beq_eq_false_iff_ne.mpr c56
 have c56b1:(t342.toList != ([48]:List UInt8))=true:=bne_iff_ne.mpr c56
 replace H:=Option.bind_eq_some_iff.mp H
 obtain ⟨t350,A610,H⟩:=H
 replace H:(if 1+t342.size≤9223372036854775807 then (some (t350.toList == ((⟨#[45]⟩:ByteArray) ++ t342).toList)) else (none))=some r:=H
 have A61:=aK_ A610
 clear A610
 have c62:=yes_ H
 rw [if_pos c62] at H
 have c62b0:=eq_true c62
 have c62b1:decide (1+t342.size≤9223372036854775807)=true:=decide_eq_true c62
 try have c62b2:(9223372036854775807<1+t342.size)=False:=eq_false (Nat.not_lt.2 c62)
 obtain rfl:=Option.some.inj H
 have hnb63:=NB337_338.out
 have hnc63:=NB338_337.out
 have hnb64:=NB337_347.out
 have hnc64:=NB347_337.out
 have hcz65_0:wc.cell? ⟨gb337,0,none⟩=some (.int .i64 a0_0):=(zAB BK337.out 0).trans rfl
 have hcz65_1:wc.cell? ⟨gb337,1,none⟩=some (.int .u64 a0_1):=(zAB BK337.out 1).trans rfl
 have hfz65_0:=zAA BK337.out 0
 have hfz65_1:=zAA BK337.out 1
 go_wp2_with (first|((with_reducible refine zAL (f:=14) rfl ?_);refine goesL_ (some 57) rfl rfl Tryd.func14 (by kernel_rfl) rfl #[.agg #[.int .i64 a0_0,.int .u64 a0_1]] rfl aM_ ?_;(with_reducible refine (wide_Sign.calls a0_0 a0_1 t349 _ A54.out).mono ?_);rintro e w66 ⟨rfl,hb⟩;refine ⟨_,rfl,?_⟩;have n0_:=aK_ (zAC (g:=gb337) (o:=.cells #[.int .i64 a0_0,.int .u64 a0_1] 27 (0,0)) (aB_ BK337.out) hb);have n1_:=aK_ (zAC (g:=gb338) (o:=.cells #[.int .i64 a1_0,.int .u64 a1_1] 27 (0,0)) (aB_ BK338.out) hb);have n2_:=aK_ (zAC (g:=gb347) (o:=.cells #[.int .i64 t344,.int .u64 t345] 27 (0,0)) (aB_ BK347.out) hb);have n3_:=aK_ (zAD (aQ_ HB.out GE337.out GE338.out GE347.out) hb);clear BK337;clear BK338;clear BK347;clear HB;have BK337:=n0_;have BK338:=n1_;have BK347:=n2_;have HB:=n3_;clear n0_ n1_ n2_ n3_;(try clear hb);(try clear hb2);(try clear hk);(try clear hi);have hnb67:=NB347_338.out;have hnc67:=NB338_347.out;have hcz68_0:w66.cell? ⟨gb347,0,none⟩=some (.int .i64 t344):=(zAB BK347.out 0).trans rfl;have hcz68_1:w66.cell? ⟨gb347,1,none⟩=some (.int .u64 t345):=(zAB BK347.out 1).trans rfl;have hfz68_0:=zAA BK347.out 0;have hfz68_1:=zAA BK347.out 1)|(go_at_call 8;(with_reducible refine (zAV.calls kj37 t344 t345 t350 _ ?side1 A61.out).mono ?_);(case side1=>(first|(with_reducible exact hG)|((repeat (with_reducible first|exact hG|apply GW.drewN|apply GW.drew|apply GW.alloc));done)|exact GW.below hG (aQ_ HB.out GE337.out GE338.out GE347.out)));rintro e w69 ⟨rfl,hb⟩;have n0_:=aK_ (zAC (g:=gb337) (o:=.cells #[.int .i64 a0_0,.int .u64 a0_1] 27 (0,0)) (aB_ BK337.out) hb);have n1_:=aK_ (zAC (g:=gb338) (o:=.cells #[.int .i64 a1_0,.int .u64 a1_1] 27 (0,0)) (aB_ BK338.out) hb);have n2_:=aK_ (zAC (g:=gb347) (o:=.cells #[.int .i64 t344,.int .u64 t345] 27 (0,0)) (aB_ BK347.out) hb);have n3_:=aK_ (zAD (aQ_ HB.out GE337.out GE338.out GE347.out) hb);clear BK337;clear BK338;clear BK347;clear HB;have BK337:=n0_;have BK338:=n1_;have BK347:=n2_;have HB:=n3_;clear n0_ n1_ n2_ n3_;(try clear hb);(try clear hb2);(try clear hk);(try clear hi)))
 go_ret
 exact ⟨by first|rfl|(simp [zAI,zAJ] <;> rfl)|(simp [*,zAI,zAJ] <;> rfl),aQ_ HB.out GE337.out GE338.out GE347.out⟩
end Go.Proofs.YtkikekiokclmdaaDoor.S
