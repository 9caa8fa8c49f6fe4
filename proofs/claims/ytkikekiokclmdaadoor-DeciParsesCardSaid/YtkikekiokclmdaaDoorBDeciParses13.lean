/- What the proof needs, part 13 of 19. DeciParses answers true for every list of strings; the input reads as it did. -/
import Derived.Test.YtkikekiokclmdaaDoorBDeciParses5
import Derived.Test.YtkikekiokclmdaaDoorBDeciParses9
import Derived.Test.YtkikekiokclmdaaDoorBDeciParses8
import Derived.Test.YtkikekiokclmdaaDoorBDeciParses11
import Derived.Test.YtkikekiokclmdaaDoorBDeciParses12
import Derived.Test.YtkikekiokclmdaaDoorBDeciParses6
set_option linter.unusedVariables false
set_option linter.unusedSimpArgs false
namespace Go.Proofs.YtkikekiokclmdaaDoor.S
open Go.RowKit Go.Proofs.YtkikekiokclmdaaDoorW.PrintWords Go.Proofs.YtkikekiokclmdaaDoorW.PrintLast Go.Proofs.YtkikekiokclmdaaDoorW.PrintMore
attribute [local go_sem] max2_int min2_int max_two min_two max_three min_three max_four min_four
attribute [local go_sem high] eqA27
def zAT.f (k:Nat)  : Option (Bool):=(zAP.f k (⟨#[45,49,53]⟩:ByteArray)).bind fun bt236=>((deci_Coins.f (⟨#[49,50,46,51,48]⟩:ByteArray)).bind fun bt240=>(if bt236.2.2=0 then (if bt240.2=0 then ((wide_Of.f (-15)).bind fun bt242=>(if (bt236.1 == bt242.1 && (bt236.2.1 == bt242.2))=true then (if bt240.1=1230 then ((wide_Of.f (-15)).bind fun bt244=>((deci_Text.f k bt244.1 bt244.2).bind fun t246=>(if t246.toList=([45,49,53]:List UInt8) then ((deci_Money.f k (-5)).bind fun t247=>(some (t247.toList == ([45,48,46,48,53]:List UInt8)))) else (some false)))) else (some false)) else (some false))) else (some false)) else (some false)))
theorem zAT.mono:∀ k,LeO (zAT.f k ) (zAT.f (k+1) ):=by
 intro  k
 unfold zAT.f
 repeat' first
   |(with_reducible exact deci_Money.mono _ _)
   |(with_reducible exact zAP.mono _ _)
   |(with_reducible exact deci_Text.mono _ _ _)
   |(with_reducible exact LeO.refl _)
   |(with_reducible exact LeO.none _)
   |(with_reducible refine LeO.ite ?_ ?_)
   |(with_reducible refine LeO.bind ?_ (fun _=>?_))
   |exact deci_Money.mono _ _
   |exact zAP.mono _ _
   |exact deci_Text.mono _ _ _
   |exact LeO.none _
   |refine LeO.ite ?_ ?_
   |refine LeO.bind ?_ (fun _=>?_)
def zAT.T3:Bool × List (List Nat × List Nat):=(true,[([],[]),([0],[0]),([1],[1]),([2],[2]),([3,2],[2,3]),([2,4],[2,4]),([5,2],[5]),([6],[6]),([6,6],[6]),([7,8,6],[6,7,8]),([6,9],[6,9]),([10,8],[10]),([11],[11]),([12,11],[11,12]),([11,13],[11,13]),([14,11],[14]),([15,15],[15]),([16,16,15],[15,16]),([17,15],[15,17]),([15,18],[15,18]),([19,17],[19]),([20,20],[20]),([21,20],[20,21]),([20,22],[20,22]),([23,21,0,1,2,3,4,5,6,7,8,9,10,11,12,13,14,15,16,17,18,19,20,21,22,23],[23])])
def zAT.B3:List Nat:=[0,1,3,7,15,31,63,127,127,511,1023,2047,4095,8191,16383,32767,65535,131071,262143,524287,1048575,2097151,4194303,8388607,16777215]
theorem zAT.tab3:rtab .any (opsOf Tryd.f7 3)=zAT.T3:=by kernel_rfl
theorem zAT.bits3:waitsOk zAT.T3.2 zAT.B3=true:=by kernel_rfl
set_option maxHeartbeats 8000000 in
set_option maxRecDepth 100000 in
theorem zAT.calls (k:Nat)  (r:Bool) (w:World) (hG:GW w) (h:zAT.f k  = some r) :
  Calls Tryd.prog 7 #[] w fun e w'=>e = .returned (.bool r)∧Below w.heap.size w w':=by
 have hu27:=Tryd.underlying27
 have HB:=aK_ (Below.refl w.heap.size w)
 have H:((zAP.f k (⟨#[45,49,53]⟩:ByteArray)).bind fun bt236=>((deci_Coins.f (⟨#[49,50,46,51,48]⟩:ByteArray)).bind fun bt240=>(if bt236.2.2=0 then (if bt240.2=0 then ((wide_Of.f (-15)).bind fun bt242=>(if (bt236.1 == bt242.1 && (bt236.2.1 == bt242.2))=true then (if bt240.1=1230 then ((wide_Of.f (-15)).bind fun bt244=>((deci_Text.f k bt244.1 bt244.2).bind fun t246=>(if t246.toList=([45,49,53]:List UInt8) then ((deci_Money.f k (-5)).bind fun t247=>(some (t247.toList == ([45,48,46,48,53]:List UInt8)))) else (some false)))) else (some false)) else (some false))) else (some false)) else (some false))))=some r:=h
 clear h
 replace H:=Option.bind_eq_some_iff.mp H
 obtain ⟨⟨t236,t237,t238⟩,A10,H⟩:=H
 replace H:((deci_Coins.f (⟨#[49,50,46,51,48]⟩:ByteArray)).bind fun bt240=>(if t238=0 then (if bt240.2=0 then ((wide_Of.f (-15)).bind fun bt242=>(if (t236 == bt242.1 && (t237 == bt242.2))=true then (if bt240.1=1230 then ((wide_Of.f (-15)).bind fun bt244=>((deci_Text.f k bt244.1 bt244.2).bind fun t246=>(if t246.toList=([45,49,53]:List UInt8) then ((deci_Money.f k (-5)).bind fun t247=>(some (t247.toList == ([45,48,46,48,53]:List UInt8)))) else (some false)))) else (some false)) else (some false))) else (some false)) else (some false)))=some r:=H
 have A1:=aK_ A10
 clear A10
 replace H:=Option.bind_eq_some_iff.mp H
 obtain ⟨⟨t240,t241⟩,A20,H⟩:=H
 replace H:(if t238=0 then (if t241=0 then ((wide_Of.f (-15)).bind fun bt242=>(if (t236 == bt242.1 && (t237 == bt242.2))=true then (if t240=1230 then ((wide_Of.f (-15)).bind fun bt244=>((deci_Text.f k bt244.1 bt244.2).bind fun t246=>(if t246.toList=([45,49,53]:List UInt8) then ((deci_Money.f k (-5)).bind fun t247=>(some (t247.toList == ([45,48,46,48,53]:List UInt8)))) else (some false)))) else (some false)) else (some false))) else (some false)) else (some false))=some r:=H
 have A2:=aK_ A20
 clear A20
 by_cases c3:t238=0
 rotate_left
 ·rw [if_neg c3] at H
  have c3b0:(t238 == 0)=false:=beq_eq_false_iff_ne.mpr c3
  have c3b1:(t238 != 0)=true:=bne_iff_ne.mpr c3
  obtain rfl:=Option.some.inj H
  go_enter Tryd.func7,Tryd.ntmps7
  try go_wp2_with (first|((with_reducible refine zAI (f:=10) rfl ?_);refine goesL_ (some 6) rfl rfl Tryd.func10 (by kernel_rfl) rfl #[.string (⟨#[45,49,53]⟩:ByteArray)] rfl aM_ ?_;(with_reducible refine (zAP.calls k (⟨#[45,49,53]⟩:ByteArray) t236 t237 t238 _ A1.out).mono ?_);rintro e w46 ⟨rfl,hb⟩;refine ⟨_,rfl,?_⟩;have n0_:=aK_ (zAD (aH_ HB.out) hb);clear HB;have HB:=n0_;clear n0_;(try clear hb);(try clear hb2);(try clear hk);(try clear hi))|((with_reducible refine zAa (N:=1) rfl ?_);refine zAV ?hg (N:=1) ?hd (cs:=#[.int .i64 0,.int .u64 0]) (t:=27) ?hr ?_;(case hd=>rfl);(case hg=>rfl);(case hr=>first|(go_simp;done)|(go_simp;rfl));intro gb239 hg w47 hbox hb;have n0_:=aK_ (zAD (aH_ HB.out) hb);have n1_:=aK_ (hbox);have n2_:=aK_ ((by rw [hg];exact (zAE (aH_ HB.out)):w.heap.size≤gb239));have n3_:=aK_ ((by rw [hg];exact (zAE (aH_ HB.out)):w.heap.size≤gb239));clear HB;have HB:=n0_;have BK239:=n1_;have GW239:=n2_;have GE239:=n3_;clear n0_ n1_ n2_ n3_;clear hb hbox hg;have hcz48_0:w47.cell? ⟨gb239,0,none⟩=some (.int .i64 0):=(zAA BK239.out 0).trans rfl;have hcz48_1:w47.cell? ⟨gb239,1,none⟩=some (.int .u64 0):=(zAA BK239.out 1).trans rfl;have hfz48_0:=zAB BK239.out 0;have hfz48_1:=zAB BK239.out 1)|((with_reducible refine zAI (f:=12) rfl ?_);refine goesL_ (some 10) rfl rfl Tryd.func12 (by kernel_rfl) rfl #[.string (⟨#[49,50,46,51,48]⟩:ByteArray)] rfl aM_ ?_;(with_reducible refine (deci_Coins.calls (⟨#[49,50,46,51,48]⟩:ByteArray) t240 t241 _ ?side1 A2.out).mono ?_);(case side1=>(first|(with_reducible exact hG)|((repeat (with_reducible first|exact hG|apply GW.drewN|apply GW.drew|apply GW.alloc));done)|exact GW.below hG (aI_ HB.out GE239.out)));rintro e w49 ⟨rfl,hb⟩;refine ⟨_,rfl,?_⟩;have n0_:=aK_ (zAC (g:=gb239) (o:=.cells #[.int .i64 t236,.int .u64 t237] 27 (0,0)) (by refine aB_ ?_;refine zAU (cs:=#[.int .i64 t236,.int .u64 0]) ?_ 1 _ rfl;refine aB_ ?_;refine zAU (cs:=#[.int .i64 0,.int .u64 0]) ?_ 0 _ rfl;refine aB_ ?_;exact BK239.out) hb);have n1_:=aK_ (zAD (aI_ HB.out GE239.out) hb);clear BK239;clear HB;have BK239:=n0_;have HB:=n1_;clear n0_ n1_;(try clear hb);(try clear hb2);(try clear hk);(try clear hi)))
  have n0_:=aK_ (blk_drew BK239.out)
  have n1_:=aK_ (below_drew1 HB.out)
  clear BK239
  clear HB
  have BK239:=n0_
  have HB:=n1_
  clear n0_ n1_
  refine start_ (n:=25) (S:=fun w'=>True) (ds:=[]) #[false,false,false,false,false,false,false,false,false,false,false,false,false,false,false,false,false,false,false,false,false,false,false,false,false] (by kernel_rfl) rfl rfl trivial (fun hHeld=>?_);refine with_tabW zAT.tab3 zAT.bits3 (fun HT_ HW_=>?_)
  generalize w49.drew=w50 at BK239 HB hHeld ⊢
  refine pure_ (i:=0) (N:=some 13) (v:=?_) (a':=?_) #[true,false,false,false,false,false,false,false,false,false,false,false,false,false,false,false,false,false,false,false,false,false,false,false,false] rfl rfl (zAM HT_.out (by kernel_rfl)) (fun _ _ _ h=>h) (Or.inl ⟨by rfl,?_⟩) ?_ ?_
  rotate_left
  ·intro w'
   go_simp
   with_reducible rfl
  rotate_left
  ·simp only [Act.put,List.setIfInBounds_toArray,List.set_cons_zero,List.set_cons_succ,zAR,zAS]
   rfl
  refine pure_ (i:=1) (N:=some 14) (v:=?_) (a':=?_) #[true,true,false,false,false,false,false,false,false,false,false,false,false,false,false,false,false,false,false,false,false,false,false,false,false] rfl rfl (zAM HT_.out (by kernel_rfl)) (fun _ _ _ h=>h) (Or.inl ⟨by rfl,?_⟩) ?_ ?_
  rotate_left
  ·intro w'
   go_simp
   with_reducible rfl
  rotate_left
  ·simp only [Act.put,List.setIfInBounds_toArray,List.set_cons_zero,List.set_cons_succ,zAR,zAS]
   rfl
  refine pure_ (i:=2) (N:=some 15) (v:=?_) (a':=?_) #[true,true,true,false,false,false,false,false,false,false,false,false,false,false,false,false,false,false,false,false,false,false,false,false,false] rfl rfl (zAM HT_.out (by kernel_rfl)) (fun _ _ _ h=>h) (Or.inl ⟨by rfl,?_⟩) ?_ ?_
  rotate_left
  ·intro w'
   go_simp
   with_reducible rfl
  rotate_left
  ·simp only [Act.put,List.setIfInBounds_toArray,List.set_cons_zero,List.set_cons_succ,zAR,zAS]
   rfl
  refine pure_ (i:=3) (N:=some 16) (v:=undef) (a':=?_) #[true,true,true,true,false,false,false,false,false,false,false,false,false,false,false,false,false,false,false,false,false,false,false,false,false] rfl rfl (zAM HT_.out (by kernel_rfl)) (fun _ _ _ h=>h) (Or.inr ⟨by rfl,rfl⟩) ?_ ?_
  rotate_left
  ·simp only [Act.put,List.setIfInBounds_toArray,List.set_cons_zero,List.set_cons_succ,zAR,zAS]
   rfl
  refine pure_ (i:=4) (N:=some 17) (v:=undef) (a':=?_) #[true,true,true,true,true,false,false,false,false,false,false,false,false,false,false,false,false,false,false,false,false,false,false,false,false] rfl rfl (zAM HT_.out (by kernel_rfl)) (fun _ _ _ h=>h) (Or.inr ⟨by rfl,rfl⟩) ?_ ?_
  rotate_left
  ·simp only [Act.put,List.setIfInBounds_toArray,List.set_cons_zero,List.set_cons_succ,zAR,zAS]
   rfl
  refine pure_ (i:=5) (N:=some 18) (v:=?_) (a':=?_) #[true,true,true,true,true,true,false,false,false,false,false,false,false,false,false,false,false,false,false,false,false,false,false,false,false] rfl rfl (zAM HT_.out (by kernel_rfl)) (fun _ _ _ h=>h) (Or.inl ⟨by rfl,?_⟩) ?_ ?_
  rotate_left
  ·intro w'
   go_simp
   with_reducible rfl
  rotate_left
  ·simp only [Act.put,List.setIfInBounds_toArray,List.set_cons_zero,List.set_cons_succ,zAR,zAS]
   rfl
  refine pure_ (i:=6) (N:=some 19) (v:=?_) (a':=?_) #[true,true,true,true,true,true,true,false,false,false,false,false,false,false,false,false,false,false,false,false,false,false,false,false,false] rfl rfl (zAM HT_.out (by kernel_rfl)) (fun _ _ _ h=>h) (Or.inl ⟨by rfl,?_⟩) ?_ ?_
  rotate_left
  ·intro w'
   go_simp
   with_reducible rfl
  rotate_left
  ·simp only [Act.put,List.setIfInBounds_toArray,List.set_cons_zero,List.set_cons_succ,zAR,zAS]
   rfl
  refine pure_ (i:=7) (N:=some 20) (v:=undef) (a':=?_) #[true,true,true,true,true,true,true,true,false,false,false,false,false,false,false,false,false,false,false,false,false,false,false,false,false] rfl rfl (zAM HT_.out (by kernel_rfl)) (fun _ _ _ h=>h) (Or.inr ⟨by rfl,rfl⟩) ?_ ?_
  rotate_left
  ·simp only [Act.put,List.setIfInBounds_toArray,List.set_cons_zero,List.set_cons_succ,zAR,zAS]
   rfl
  refine pure_ (i:=8) (N:=some 21) (v:=undef) (a':=?_) #[true,true,true,true,true,true,true,true,true,false,false,false,false,false,false,false,false,false,false,false,false,false,false,false,false] rfl rfl (zAM HT_.out (by kernel_rfl)) (fun _ _ _ h=>h) (Or.inr ⟨by rfl,rfl⟩) ?_ ?_
  rotate_left
  ·simp only [Act.put,List.setIfInBounds_toArray,List.set_cons_zero,List.set_cons_succ,zAR,zAS]
   rfl
  refine pure_ (i:=9) (N:=some 22) (v:=undef) (a':=?_) #[true,true,true,true,true,true,true,true,true,true,false,false,false,false,false,false,false,false,false,false,false,false,false,false,false] rfl rfl (zAM HT_.out (by kernel_rfl)) (fun _ _ _ h=>h) (Or.inr ⟨by rfl,rfl⟩) ?_ ?_
  rotate_left
  ·simp only [Act.put,List.setIfInBounds_toArray,List.set_cons_zero,List.set_cons_succ,zAR,zAS]
   rfl
  refine pure_ (i:=10) (N:=some 23) (v:=?_) (a':=?_) #[true,true,true,true,true,true,true,true,true,true,true,false,false,false,false,false,false,false,false,false,false,false,false,false,false] rfl rfl (zAM HT_.out (by kernel_rfl)) (fun _ _ _ h=>h) (Or.inl ⟨by rfl,?_⟩) ?_ ?_
  rotate_left
  ·intro w'
   go_simp
   with_reducible rfl
  rotate_left
  ·simp only [Act.put,List.setIfInBounds_toArray,List.set_cons_zero,List.set_cons_succ,zAR,zAS]
   rfl
  refine pure_ (i:=11) (N:=some 24) (v:=?_) (a':=?_) #[true,true,true,true,true,true,true,true,true,true,true,true,false,false,false,false,false,false,false,false,false,false,false,false,false] rfl rfl (zAM HT_.out (by kernel_rfl)) (fun _ _ _ h=>h) (Or.inl ⟨by rfl,?_⟩) ?_ ?_
  rotate_left
  ·intro w'
   go_simp
   with_reducible rfl
  rotate_left
  ·simp only [Act.put,List.setIfInBounds_toArray,List.set_cons_zero,List.set_cons_succ,zAR,zAS]
   rfl
  refine pure_ (i:=12) (N:=some 25) (v:=undef) (a':=?_) #[true,true,true,true,true,true,true,true,true,true,true,true,true,false,false,false,false,false,false,false,false,false,false,false,false] rfl rfl (zAM HT_.out (by kernel_rfl)) (fun _ _ _ h=>h) (Or.inr ⟨by rfl,rfl⟩) ?_ ?_
  rotate_left
  ·simp only [Act.put,List.setIfInBounds_toArray,List.set_cons_zero,List.set_cons_succ,zAR,zAS]
   rfl
  refine pure_ (i:=13) (N:=some 26) (v:=undef) (a':=?_) #[true,true,true,true,true,true,true,true,true,true,true,true,true,true,false,false,false,false,false,false,false,false,false,false,false] rfl rfl (zAM HT_.out (by kernel_rfl)) (fun _ _ _ h=>h) (Or.inr ⟨by rfl,rfl⟩) ?_ ?_
  rotate_left
  ·simp only [Act.put,List.setIfInBounds_toArray,List.set_cons_zero,List.set_cons_succ,zAR,zAS]
   rfl
  refine pure_ (i:=14) (N:=some 27) (v:=?_) (a':=?_) #[true,true,true,true,true,true,true,true,true,true,true,true,true,true,true,false,false,false,false,false,false,false,false,false,false] rfl rfl (zAM HT_.out (by kernel_rfl)) (fun _ _ _ h=>h) (Or.inl ⟨by rfl,?_⟩) ?_ ?_
  rotate_left
  ·intro w'
   go_simp
   with_reducible rfl
  rotate_left
  ·simp only [Act.put,List.setIfInBounds_toArray,List.set_cons_zero,List.set_cons_succ,zAR,zAS]
   rfl
  refine pure_ (i:=15) (N:=some 28) (v:=?_) (a':=?_) #[true,true,true,true,true,true,true,true,true,true,true,true,true,true,true,true,false,false,false,false,false,false,false,false,false] rfl rfl (zAM HT_.out (by kernel_rfl)) (fun _ _ _ h=>h) (Or.inl ⟨by rfl,?_⟩) ?_ ?_
  rotate_left
  ·intro w'
   go_simp
   with_reducible rfl
  rotate_left
  ·simp only [Act.put,List.setIfInBounds_toArray,List.set_cons_zero,List.set_cons_succ,zAR,zAS]
   rfl
  refine pure_ (i:=16) (N:=some 29) (v:=undef) (a':=?_) #[true,true,true,true,true,true,true,true,true,true,true,true,true,true,true,true,true,false,false,false,false,false,false,false,false] rfl rfl (zAM HT_.out (by kernel_rfl)) (fun _ _ _ h=>h) (Or.inr ⟨by rfl,rfl⟩) ?_ ?_
  rotate_left
  ·simp only [Act.put,List.setIfInBounds_toArray,List.set_cons_zero,List.set_cons_succ,zAR,zAS]
   rfl
  refine pure_ (i:=17) (N:=some 30) (v:=undef) (a':=?_) #[true,true,true,true,true,true,true,true,true,true,true,true,true,true,true,true,true,true,false,false,false,false,false,false,false] rfl rfl (zAM HT_.out (by kernel_rfl)) (fun _ _ _ h=>h) (Or.inr ⟨by rfl,rfl⟩) ?_ ?_
  rotate_left
  ·simp only [Act.put,List.setIfInBounds_toArray,List.set_cons_zero,List.set_cons_succ,zAR,zAS]
   rfl
  refine pure_ (i:=18) (N:=some 31) (v:=undef) (a':=?_) #[true,true,true,true,true,true,true,true,true,true,true,true,true,true,true,true,true,true,true,false,false,false,false,false,false] rfl rfl (zAM HT_.out (by kernel_rfl)) (fun _ _ _ h=>h) (Or.inr ⟨by rfl,rfl⟩) ?_ ?_
  rotate_left
  ·simp only [Act.put,List.setIfInBounds_toArray,List.set_cons_zero,List.set_cons_succ,zAR,zAS]
   rfl
  refine pure_ (i:=19) (N:=some 32) (v:=?_) (a':=?_) #[true,true,true,true,true,true,true,true,true,true,true,true,true,true,true,true,true,true,true,true,false,false,false,false,false] rfl rfl (zAM HT_.out (by kernel_rfl)) (fun _ _ _ h=>h) (Or.inl ⟨by rfl,?_⟩) ?_ ?_
  rotate_left
  ·intro w'
   go_simp
   with_reducible rfl
  rotate_left
  ·simp only [Act.put,List.setIfInBounds_toArray,List.set_cons_zero,List.set_cons_succ,zAR,zAS]
   rfl
  refine pure_ (i:=20) (N:=some 33) (v:=?_) (a':=?_) #[true,true,true,true,true,true,true,true,true,true,true,true,true,true,true,true,true,true,true,true,true,false,false,false,false] rfl rfl (zAM HT_.out (by kernel_rfl)) (fun _ _ _ h=>h) (Or.inl ⟨by rfl,?_⟩) ?_ ?_
  rotate_left
  ·intro w'
   go_simp
   with_reducible rfl
  rotate_left
  ·simp only [Act.put,List.setIfInBounds_toArray,List.set_cons_zero,List.set_cons_succ,zAR,zAS]
   rfl
  refine pure_ (i:=21) (N:=some 34) (v:=undef) (a':=?_) #[true,true,true,true,true,true,true,true,true,true,true,true,true,true,true,true,true,true,true,true,true,true,false,false,false] rfl rfl (zAM HT_.out (by kernel_rfl)) (fun _ _ _ h=>h) (Or.inr ⟨by rfl,rfl⟩) ?_ ?_
  rotate_left
  ·simp only [Act.put,List.setIfInBounds_toArray,List.set_cons_zero,List.set_cons_succ,zAR,zAS]
   rfl
  refine pure_ (i:=22) (N:=some 35) (v:=undef) (a':=?_) #[true,true,true,true,true,true,true,true,true,true,true,true,true,true,true,true,true,true,true,true,true,true,true,false,false] rfl rfl (zAM HT_.out (by kernel_rfl)) (fun _ _ _ h=>h) (Or.inr ⟨by rfl,rfl⟩) ?_ ?_
  rotate_left
  ·simp only [Act.put,List.setIfInBounds_toArray,List.set_cons_zero,List.set_cons_succ,zAR,zAS]
   rfl
  refine pure_ (i:=23) (N:=some 36) (v:=?_) (a':=?_) #[true,true,true,true,true,true,true,true,true,true,true,true,true,true,true,true,true,true,true,true,true,true,true,true,false] rfl rfl (zAM HT_.out (by kernel_rfl)) (fun _ _ _ h=>h) (Or.inl ⟨by rfl,?_⟩) ?_ ?_
  rotate_left
  ·intro w'
   go_simp
   with_reducible rfl
  rotate_left
  ·simp only [Act.put,List.setIfInBounds_toArray,List.set_cons_zero,List.set_cons_succ,zAR,zAS]
   rfl
  refine pure_ (i:=24) (N:=some 0) (v:=?_) (a':=?_) #[true,true,true,true,true,true,true,true,true,true,true,true,true,true,true,true,true,true,true,true,true,true,true,true,true] rfl rfl (zAM HT_.out (by kernel_rfl)) (fun _ _ _ h=>h) (Or.inl ⟨by rfl,?_⟩) ?_ ?_
  rotate_left
  ·intro w'
   go_simp
   with_reducible rfl
  rotate_left
  ·simp only [Act.put,List.setIfInBounds_toArray,List.set_cons_zero,List.set_cons_succ,zAR,zAS]
   rfl
  refine done_ (done_of HT_.out (by kernel_rfl)) ?_
  try go_wp2
  go_ret
  exact ⟨by first|rfl|(simp [zAK,zAL] <;> rfl)|(simp [*,zAK,zAL] <;> rfl),aI_ HB.out GE239.out⟩
 rw [if_pos c3] at H
 have c3b0:(t238 == 0)=true:=beq_iff_eq.mpr c3
 have c3b1:(t238 != 0)=false:=bne_eq_false_iff_eq.mpr c3
 clear c3
 by_cases c4:t241=0
 rotate_left
 ·rw [if_neg c4] at H
  have c4b0:(t241 == 0)=false:=beq_eq_false_iff_ne.mpr c4
  have c4b1:(t241 != 0)=true:=bne_iff_ne.mpr c4
  obtain rfl:=Option.some.inj H
  go_enter Tryd.func7,Tryd.ntmps7
  try go_wp2_with (first|((with_reducible refine zAI (f:=10) rfl ?_);refine goesL_ (some 6) rfl rfl Tryd.func10 (by kernel_rfl) rfl #[.string (⟨#[45,49,53]⟩:ByteArray)] rfl aM_ ?_;(with_reducible refine (zAP.calls k (⟨#[45,49,53]⟩:ByteArray) t236 t237 t238 _ A1.out).mono ?_);rintro e w41 ⟨rfl,hb⟩;refine ⟨_,rfl,?_⟩;have n0_:=aK_ (zAD (aH_ HB.out) hb);clear HB;have HB:=n0_;clear n0_;(try clear hb);(try clear hb2);(try clear hk);(try clear hi))|((with_reducible refine zAa (N:=1) rfl ?_);refine zAV ?hg (N:=1) ?hd (cs:=#[.int .i64 0,.int .u64 0]) (t:=27) ?hr ?_;(case hd=>rfl);(case hg=>rfl);(case hr=>first|(go_simp;done)|(go_simp;rfl));intro gb239 hg w42 hbox hb;have n0_:=aK_ (zAD (aH_ HB.out) hb);have n1_:=aK_ (hbox);have n2_:=aK_ ((by rw [hg];exact (zAE (aH_ HB.out)):w.heap.size≤gb239));have n3_:=aK_ ((by rw [hg];exact (zAE (aH_ HB.out)):w.heap.size≤gb239));clear HB;have HB:=n0_;have BK239:=n1_;have GW239:=n2_;have GE239:=n3_;clear n0_ n1_ n2_ n3_;clear hb hbox hg;have hcz43_0:w42.cell? ⟨gb239,0,none⟩=some (.int .i64 0):=(zAA BK239.out 0).trans rfl;have hcz43_1:w42.cell? ⟨gb239,1,none⟩=some (.int .u64 0):=(zAA BK239.out 1).trans rfl;have hfz43_0:=zAB BK239.out 0;have hfz43_1:=zAB BK239.out 1)|((with_reducible refine zAI (f:=12) rfl ?_);refine goesL_ (some 10) rfl rfl Tryd.func12 (by kernel_rfl) rfl #[.string (⟨#[49,50,46,51,48]⟩:ByteArray)] rfl aM_ ?_;(with_reducible refine (deci_Coins.calls (⟨#[49,50,46,51,48]⟩:ByteArray) t240 t241 _ ?side1 A2.out).mono ?_);(case side1=>(first|(with_reducible exact hG)|((repeat (with_reducible first|exact hG|apply GW.drewN|apply GW.drew|apply GW.alloc));done)|exact GW.below hG (aI_ HB.out GE239.out)));rintro e w44 ⟨rfl,hb⟩;refine ⟨_,rfl,?_⟩;have n0_:=aK_ (zAC (g:=gb239) (o:=.cells #[.int .i64 t236,.int .u64 t237] 27 (0,0)) (by refine aB_ ?_;refine zAU (cs:=#[.int .i64 t236,.int .u64 0]) ?_ 1 _ rfl;refine aB_ ?_;refine zAU (cs:=#[.int .i64 0,.int .u64 0]) ?_ 0 _ rfl;refine aB_ ?_;exact BK239.out) hb);have n1_:=aK_ (zAD (aI_ HB.out GE239.out) hb);clear BK239;clear HB;have BK239:=n0_;have HB:=n1_;clear n0_ n1_;(try clear hb);(try clear hb2);(try clear hk);(try clear hi)))
  have n0_:=aK_ (blk_drew BK239.out)
  have n1_:=aK_ (below_drew1 HB.out)
  clear BK239
  clear HB
  have BK239:=n0_
  have HB:=n1_
  clear n0_ n1_
  refine start_ (n:=25) (S:=fun w'=>True) (ds:=[]) #[false,false,false,false,false,false,false,false,false,false,false,false,false,false,false,false,false,false,false,false,false,false,false,false,false] (by kernel_rfl) rfl rfl trivial (fun hHeld=>?_);refine with_tabW zAT.tab3 zAT.bits3 (fun HT_ HW_=>?_)
  generalize w44.drew=w45 at BK239 HB hHeld ⊢
  refine pure_ (i:=0) (N:=some 13) (v:=?_) (a':=?_) #[true,false,false,false,false,false,false,false,false,false,false,false,false,false,false,false,false,false,false,false,false,false,false,false,false] rfl rfl (zAM HT_.out (by kernel_rfl)) (fun _ _ _ h=>h) (Or.inl ⟨by rfl,?_⟩) ?_ ?_
  rotate_left
  ·intro w'
   go_simp
   with_reducible rfl
  rotate_left
  ·simp only [Act.put,List.setIfInBounds_toArray,List.set_cons_zero,List.set_cons_succ,zAR,zAS]
   rfl
  refine pure_ (i:=1) (N:=some 14) (v:=?_) (a':=?_) #[true,true,false,false,false,false,false,false,false,false,false,false,false,false,false,false,false,false,false,false,false,false,false,false,false] rfl rfl (zAM HT_.out (by kernel_rfl)) (fun _ _ _ h=>h) (Or.inl ⟨by rfl,?_⟩) ?_ ?_
  rotate_left
  ·intro w'
   go_simp
   with_reducible rfl
  rotate_left
  ·simp only [Act.put,List.setIfInBounds_toArray,List.set_cons_zero,List.set_cons_succ,zAR,zAS]
   rfl
  refine pure_ (i:=2) (N:=some 15) (v:=?_) (a':=?_) #[true,true,true,false,false,false,false,false,false,false,false,false,false,false,false,false,false,false,false,false,false,false,false,false,false] rfl rfl (zAM HT_.out (by kernel_rfl)) (fun _ _ _ h=>h) (Or.inl ⟨by rfl,?_⟩) ?_ ?_
  rotate_left
  ·intro w'
   go_simp
   with_reducible rfl
  rotate_left
  ·simp only [Act.put,List.setIfInBounds_toArray,List.set_cons_zero,List.set_cons_succ,zAR,zAS]
   rfl
  refine pure_ (i:=3) (N:=some 16) (v:=?_) (a':=?_) #[true,true,true,true,false,false,false,false,false,false,false,false,false,false,false,false,false,false,false,false,false,false,false,false,false] rfl rfl (zAM HT_.out (by kernel_rfl)) (fun _ _ _ h=>h) (Or.inl ⟨by rfl,?_⟩) ?_ ?_
  rotate_left
  ·intro w'
   go_simp
   with_reducible rfl
  rotate_left
  ·simp only [Act.put,List.setIfInBounds_toArray,List.set_cons_zero,List.set_cons_succ,zAR,zAS]
   rfl
  refine pure_ (i:=4) (N:=some 17) (v:=?_) (a':=?_) #[true,true,true,true,true,false,false,false,false,false,false,false,false,false,false,false,false,false,false,false,false,false,false,false,false] rfl rfl (zAM HT_.out (by kernel_rfl)) (fun _ _ _ h=>h) (Or.inl ⟨by rfl,?_⟩) ?_ ?_
  rotate_left
  ·intro w'
   go_simp
   with_reducible rfl
  rotate_left
  ·simp only [Act.put,List.setIfInBounds_toArray,List.set_cons_zero,List.set_cons_succ,zAR,zAS]
   rfl
  refine pure_ (i:=5) (N:=some 18) (v:=?_) (a':=?_) #[true,true,true,true,true,true,false,false,false,false,false,false,false,false,false,false,false,false,false,false,false,false,false,false,false] rfl rfl (zAM HT_.out (by kernel_rfl)) (fun _ _ _ h=>h) (Or.inl ⟨by rfl,?_⟩) ?_ ?_
  rotate_left
  ·intro w'
   go_simp
   with_reducible rfl
  rotate_left
  ·simp only [Act.put,List.setIfInBounds_toArray,List.set_cons_zero,List.set_cons_succ,zAR,zAS]
   rfl
  refine pure_ (i:=6) (N:=some 19) (v:=?_) (a':=?_) #[true,true,true,true,true,true,true,false,false,false,false,false,false,false,false,false,false,false,false,false,false,false,false,false,false] rfl rfl (zAM HT_.out (by kernel_rfl)) (fun _ _ _ h=>h) (Or.inl ⟨by rfl,?_⟩) ?_ ?_
  rotate_left
  ·intro w'
   go_simp
   with_reducible rfl
  rotate_left
  ·simp only [Act.put,List.setIfInBounds_toArray,List.set_cons_zero,List.set_cons_succ,zAR,zAS]
   rfl
  refine pure_ (i:=7) (N:=some 20) (v:=undef) (a':=?_) #[true,true,true,true,true,true,true,true,false,false,false,false,false,false,false,false,false,false,false,false,false,false,false,false,false] rfl rfl (zAM HT_.out (by kernel_rfl)) (fun _ _ _ h=>h) (Or.inr ⟨by rfl,rfl⟩) ?_ ?_
  rotate_left
  ·simp only [Act.put,List.setIfInBounds_toArray,List.set_cons_zero,List.set_cons_succ,zAR,zAS]
   rfl
  refine pure_ (i:=8) (N:=some 21) (v:=undef) (a':=?_) #[true,true,true,true,true,true,true,true,true,false,false,false,false,false,false,false,false,false,false,false,false,false,false,false,false] rfl rfl (zAM HT_.out (by kernel_rfl)) (fun _ _ _ h=>h) (Or.inr ⟨by rfl,rfl⟩) ?_ ?_
  rotate_left
  ·simp only [Act.put,List.setIfInBounds_toArray,List.set_cons_zero,List.set_cons_succ,zAR,zAS]
   rfl
  refine pure_ (i:=9) (N:=some 22) (v:=undef) (a':=?_) #[true,true,true,true,true,true,true,true,true,true,false,false,false,false,false,false,false,false,false,false,false,false,false,false,false] rfl rfl (zAM HT_.out (by kernel_rfl)) (fun _ _ _ h=>h) (Or.inr ⟨by rfl,rfl⟩) ?_ ?_
  rotate_left
  ·simp only [Act.put,List.setIfInBounds_toArray,List.set_cons_zero,List.set_cons_succ,zAR,zAS]
   rfl
  refine pure_ (i:=10) (N:=some 23) (v:=?_) (a':=?_) #[true,true,true,true,true,true,true,true,true,true,true,false,false,false,false,false,false,false,false,false,false,false,false,false,false] rfl rfl (zAM HT_.out (by kernel_rfl)) (fun _ _ _ h=>h) (Or.inl ⟨by rfl,?_⟩) ?_ ?_
  rotate_left
  ·intro w'
   go_simp
   with_reducible rfl
  rotate_left
  ·simp only [Act.put,List.setIfInBounds_toArray,List.set_cons_zero,List.set_cons_succ,zAR,zAS]
   rfl
  refine pure_ (i:=11) (N:=some 24) (v:=?_) (a':=?_) #[true,true,true,true,true,true,true,true,true,true,true,true,false,false,false,false,false,false,false,false,false,false,false,false,false] rfl rfl (zAM HT_.out (by kernel_rfl)) (fun _ _ _ h=>h) (Or.inl ⟨by rfl,?_⟩) ?_ ?_
  rotate_left
  ·intro w'
   go_simp
   with_reducible rfl
  rotate_left
  ·simp only [Act.put,List.setIfInBounds_toArray,List.set_cons_zero,List.set_cons_succ,zAR,zAS]
   rfl
  refine pure_ (i:=12) (N:=some 25) (v:=undef) (a':=?_) #[true,true,true,true,true,true,true,true,true,true,true,true,true,false,false,false,false,false,false,false,false,false,false,false,false] rfl rfl (zAM HT_.out (by kernel_rfl)) (fun _ _ _ h=>h) (Or.inr ⟨by rfl,rfl⟩) ?_ ?_
  rotate_left
  ·simp only [Act.put,List.setIfInBounds_toArray,List.set_cons_zero,List.set_cons_succ,zAR,zAS]
   rfl
  refine pure_ (i:=13) (N:=some 26) (v:=undef) (a':=?_) #[true,true,true,true,true,true,true,true,true,true,true,true,true,true,false,false,false,false,false,false,false,false,false,false,false] rfl rfl (zAM HT_.out (by kernel_rfl)) (fun _ _ _ h=>h) (Or.inr ⟨by rfl,rfl⟩) ?_ ?_
  rotate_left
  ·simp only [Act.put,List.setIfInBounds_toArray,List.set_cons_zero,List.set_cons_succ,zAR,zAS]
   rfl
  refine pure_ (i:=14) (N:=some 27) (v:=?_) (a':=?_) #[true,true,true,true,true,true,true,true,true,true,true,true,true,true,true,false,false,false,false,false,false,false,false,false,false] rfl rfl (zAM HT_.out (by kernel_rfl)) (fun _ _ _ h=>h) (Or.inl ⟨by rfl,?_⟩) ?_ ?_
  rotate_left
  ·intro w'
   go_simp
   with_reducible rfl
  rotate_left
  ·simp only [Act.put,List.setIfInBounds_toArray,List.set_cons_zero,List.set_cons_succ,zAR,zAS]
   rfl
  refine pure_ (i:=15) (N:=some 28) (v:=?_) (a':=?_) #[true,true,true,true,true,true,true,true,true,true,true,true,true,true,true,true,false,false,false,false,false,false,false,false,false] rfl rfl (zAM HT_.out (by kernel_rfl)) (fun _ _ _ h=>h) (Or.inl ⟨by rfl,?_⟩) ?_ ?_
  rotate_left
  ·intro w'
   go_simp
   with_reducible rfl
  rotate_left
  ·simp only [Act.put,List.setIfInBounds_toArray,List.set_cons_zero,List.set_cons_succ,zAR,zAS]
   rfl
  refine pure_ (i:=16) (N:=some 29) (v:=undef) (a':=?_) #[true,true,true,true,true,true,true,true,true,true,true,true,true,true,true,true,true,false,false,false,false,false,false,false,false] rfl rfl (zAM HT_.out (by kernel_rfl)) (fun _ _ _ h=>h) (Or.inr ⟨by rfl,rfl⟩) ?_ ?_
  rotate_left
  ·simp only [Act.put,List.setIfInBounds_toArray,List.set_cons_zero,List.set_cons_succ,zAR,zAS]
   rfl
  refine pure_ (i:=17) (N:=some 30) (v:=undef) (a':=?_) #[true,true,true,true,true,true,true,true,true,true,true,true,true,true,true,true,true,true,false,false,false,false,false,false,false] rfl rfl (zAM HT_.out (by kernel_rfl)) (fun _ _ _ h=>h) (Or.inr ⟨by rfl,rfl⟩) ?_ ?_
  rotate_left
  ·simp only [Act.put,List.setIfInBounds_toArray,List.set_cons_zero,List.set_cons_succ,zAR,zAS]
   rfl
  refine pure_ (i:=18) (N:=some 31) (v:=undef) (a':=?_) #[true,true,true,true,true,true,true,true,true,true,true,true,true,true,true,true,true,true,true,false,false,false,false,false,false] rfl rfl (zAM HT_.out (by kernel_rfl)) (fun _ _ _ h=>h) (Or.inr ⟨by rfl,rfl⟩) ?_ ?_
  rotate_left
  ·simp only [Act.put,List.setIfInBounds_toArray,List.set_cons_zero,List.set_cons_succ,zAR,zAS]
   rfl
  refine pure_ (i:=19) (N:=some 32) (v:=?_) (a':=?_) #[true,true,true,true,true,true,true,true,true,true,true,true,true,true,true,true,true,true,true,true,false,false,false,false,false] rfl rfl (zAM HT_.out (by kernel_rfl)) (fun _ _ _ h=>h) (Or.inl ⟨by rfl,?_⟩) ?_ ?_
  rotate_left
  ·intro w'
   go_simp
   with_reducible rfl
  rotate_left
  ·simp only [Act.put,List.setIfInBounds_toArray,List.set_cons_zero,List.set_cons_succ,zAR,zAS]
   rfl
  refine pure_ (i:=20) (N:=some 33) (v:=?_) (a':=?_) #[true,true,true,true,true,true,true,true,true,true,true,true,true,true,true,true,true,true,true,true,true,false,false,false,false] rfl rfl (zAM HT_.out (by kernel_rfl)) (fun _ _ _ h=>h) (Or.inl ⟨by rfl,?_⟩) ?_ ?_
  rotate_left
  ·intro w'
   go_simp
   with_reducible rfl
  rotate_left
  ·simp only [Act.put,List.setIfInBounds_toArray,List.set_cons_zero,List.set_cons_succ,zAR,zAS]
   rfl
  refine pure_ (i:=21) (N:=some 34) (v:=undef) (a':=?_) #[true,true,true,true,true,true,true,true,true,true,true,true,true,true,true,true,true,true,true,true,true,true,false,false,false] rfl rfl (zAM HT_.out (by kernel_rfl)) (fun _ _ _ h=>h) (Or.inr ⟨by rfl,rfl⟩) ?_ ?_
  rotate_left
  ·simp only [Act.put,List.setIfInBounds_toArray,List.set_cons_zero,List.set_cons_succ,zAR,zAS]
   rfl
  refine pure_ (i:=22) (N:=some 35) (v:=undef) (a':=?_) #[true,true,true,true,true,true,true,true,true,true,true,true,true,true,true,true,true,true,true,true,true,true,true,false,false] rfl rfl (zAM HT_.out (by kernel_rfl)) (fun _ _ _ h=>h) (Or.inr ⟨by rfl,rfl⟩) ?_ ?_
  rotate_left
  ·simp only [Act.put,List.setIfInBounds_toArray,List.set_cons_zero,List.set_cons_succ,zAR,zAS]
   rfl
  refine pure_ (i:=23) (N:=some 36) (v:=?_) (a':=?_) #[true,true,true,true,true,true,true,true,true,true,true,true,true,true,true,true,true,true,true,true,true,true,true,true,false] rfl rfl (zAM HT_.out (by kernel_rfl)) (fun _ _ _ h=>h) (Or.inl ⟨by rfl,?_⟩) ?_ ?_
  rotate_left
  ·intro w'
   go_simp
   with_reducible rfl
  rotate_left
  ·simp only [Act.put,List.setIfInBounds_toArray,List.set_cons_zero,List.set_cons_succ,zAR,zAS]
   rfl
  refine pure_ (i:=24) (N:=some 0) (v:=?_) (a':=?_) #[true,true,true,true,true,true,true,true,true,true,true,true,true,true,true,true,true,true,true,true,true,true,true,true,true] rfl rfl (zAM HT_.out (by kernel_rfl)) (fun _ _ _ h=>h) (Or.inl ⟨by rfl,?_⟩) ?_ ?_
  rotate_left
  ·intro w'
   go_simp
   with_reducible rfl
  rotate_left
  ·simp only [Act.put,List.setIfInBounds_toArray,List.set_cons_zero,List.set_cons_succ,zAR,zAS]
   rfl
  refine done_ (done_of HT_.out (by kernel_rfl)) ?_
  try go_wp2
  go_ret
  exact ⟨by first|rfl|(simp [zAK,zAL] <;> rfl)|(simp [*,zAK,zAL] <;> rfl),aI_ HB.out GE239.out⟩
 rw [if_pos c4] at H
 have c4b0:(t241 == 0)=true:=beq_iff_eq.mpr c4
 have c4b1:(t241 != 0)=false:=bne_eq_false_iff_eq.mpr c4
 clear c4
 replace H:=Option.bind_eq_some_iff.mp H
 obtain ⟨⟨t242,t243⟩,A50,H⟩:=H
 replace H:(if (t236 == t242 && (t237 == t243))=true then (if t240=1230 then ((wide_Of.f (-15)).bind fun bt244=>((deci_Text.f k bt244.1 bt244.2).bind fun t246=>(if t246.toList=([45,49,53]:List UInt8) then ((deci_Money.f k (-5)).bind fun t247=>(some (t247.toList == ([45,48,46,48,53]:List UInt8)))) else (some false)))) else (some false)) else (some false))=some r:=H
 have A5:=aK_ A50
 clear A50
 by_cases c6:(t236 == t242 && (t237 == t243))=true
 rotate_left
 ·rw [if_neg c6] at H
  have c6b0:(t236 == t242 && (t237 == t243))=false:=by simpa using c6
  (try (have c6b1:decide (t236=t242 && (t237 == t243))=false:=by simpa using c6))
  (try (have c6b2:(t236 == t242 && (t237 == t243))=false:=by simpa using c6))
  (try (have c6b3 : ¬ (t236=t242 && (t237 == t243)):=by simpa using c6))
  clear c6
  obtain rfl:=Option.some.inj H
  go_enter Tryd.func7,Tryd.ntmps7
  try go_wp2_with (first|((with_reducible refine zAI (f:=10) rfl ?_);refine goesL_ (some 6) rfl rfl Tryd.func10 (by kernel_rfl) rfl #[.string (⟨#[45,49,53]⟩:ByteArray)] rfl aM_ ?_;(with_reducible refine (zAP.calls k (⟨#[45,49,53]⟩:ByteArray) t236 t237 t238 _ A1.out).mono ?_);rintro e w35 ⟨rfl,hb⟩;refine ⟨_,rfl,?_⟩;have n0_:=aK_ (zAD (aH_ HB.out) hb);clear HB;have HB:=n0_;clear n0_;(try clear hb);(try clear hb2);(try clear hk);(try clear hi))|((with_reducible refine zAa (N:=1) rfl ?_);refine zAV ?hg (N:=1) ?hd (cs:=#[.int .i64 0,.int .u64 0]) (t:=27) ?hr ?_;(case hd=>rfl);(case hg=>rfl);(case hr=>first|(go_simp;done)|(go_simp;rfl));intro gb239 hg w36 hbox hb;have n0_:=aK_ (zAD (aH_ HB.out) hb);have n1_:=aK_ (hbox);have n2_:=aK_ ((by rw [hg];exact (zAE (aH_ HB.out)):w.heap.size≤gb239));have n3_:=aK_ ((by rw [hg];exact (zAE (aH_ HB.out)):w.heap.size≤gb239));clear HB;have HB:=n0_;have BK239:=n1_;have GW239:=n2_;have GE239:=n3_;clear n0_ n1_ n2_ n3_;clear hb hbox hg;have hcz37_0:w36.cell? ⟨gb239,0,none⟩=some (.int .i64 0):=(zAA BK239.out 0).trans rfl;have hcz37_1:w36.cell? ⟨gb239,1,none⟩=some (.int .u64 0):=(zAA BK239.out 1).trans rfl;have hfz37_0:=zAB BK239.out 0;have hfz37_1:=zAB BK239.out 1)|((with_reducible refine zAI (f:=12) rfl ?_);refine goesL_ (some 10) rfl rfl Tryd.func12 (by kernel_rfl) rfl #[.string (⟨#[49,50,46,51,48]⟩:ByteArray)] rfl aM_ ?_;(with_reducible refine (deci_Coins.calls (⟨#[49,50,46,51,48]⟩:ByteArray) t240 t241 _ ?side1 A2.out).mono ?_);(case side1=>(first|(with_reducible exact hG)|((repeat (with_reducible first|exact hG|apply GW.drewN|apply GW.drew|apply GW.alloc));done)|exact GW.below hG (aI_ HB.out GE239.out)));rintro e w38 ⟨rfl,hb⟩;refine ⟨_,rfl,?_⟩;have n0_:=aK_ (zAC (g:=gb239) (o:=.cells #[.int .i64 t236,.int .u64 t237] 27 (0,0)) (by refine aB_ ?_;refine zAU (cs:=#[.int .i64 t236,.int .u64 0]) ?_ 1 _ rfl;refine aB_ ?_;refine zAU (cs:=#[.int .i64 0,.int .u64 0]) ?_ 0 _ rfl;refine aB_ ?_;exact BK239.out) hb);have n1_:=aK_ (zAD (aI_ HB.out GE239.out) hb);clear BK239;clear HB;have BK239:=n0_;have HB:=n1_;clear n0_ n1_;(try clear hb);(try clear hb2);(try clear hk);(try clear hi)))
  have n0_:=aK_ (blk_drew BK239.out)
  have n1_:=aK_ (below_drew1 HB.out)
  clear BK239
  clear HB
  have BK239:=n0_
  have HB:=n1_
  clear n0_ n1_
  refine start_ (n:=25) (S:=fun w'=>w'.cell? ⟨gb239,0,none⟩=some (.int .i64 t236)∧w'.cell? ⟨gb239,1,none⟩=some (.int .u64 t237)) (ds:=[]) #[false,false,false,false,false,false,false,false,false,false,false,false,false,false,false,false,false,false,false,false,false,false,false,false,false] (by kernel_rfl) rfl rfl ⟨(zAA BK239.out 0).trans rfl,(zAA BK239.out 1).trans rfl⟩ (fun hHeld=>?_);refine with_tabW zAT.tab3 zAT.bits3 (fun HT_ HW_=>?_)
  generalize w38.drew=w39 at BK239 HB hHeld ⊢
  refine pure_ (i:=0) (N:=some 13) (v:=?_) (a':=?_) #[true,false,false,false,false,false,false,false,false,false,false,false,false,false,false,false,false,false,false,false,false,false,false,false,false] rfl rfl (zAM HT_.out (by kernel_rfl)) (fun _ _ _ h=>h) (Or.inl ⟨by rfl,?_⟩) ?_ ?_
  rotate_left
  ·intro w'
   go_simp
   with_reducible rfl
  rotate_left
  ·simp only [Act.put,List.setIfInBounds_toArray,List.set_cons_zero,List.set_cons_succ,zAR,zAS]
   rfl
  refine pure_ (i:=1) (N:=some 14) (v:=?_) (a':=?_) #[true,true,false,false,false,false,false,false,false,false,false,false,false,false,false,false,false,false,false,false,false,false,false,false,false] rfl rfl (zAM HT_.out (by kernel_rfl)) (fun _ _ _ h=>h) (Or.inl ⟨by rfl,?_⟩) ?_ ?_
  rotate_left
  ·intro w'
   go_simp
   with_reducible rfl
  rotate_left
  ·simp only [Act.put,List.setIfInBounds_toArray,List.set_cons_zero,List.set_cons_succ,zAR,zAS]
   rfl
  refine pure_ (i:=2) (N:=some 15) (v:=?_) (a':=?_) #[true,true,true,false,false,false,false,false,false,false,false,false,false,false,false,false,false,false,false,false,false,false,false,false,false] rfl rfl (zAM HT_.out (by kernel_rfl)) (fun _ _ _ h=>h) (Or.inl ⟨by rfl,?_⟩) ?_ ?_
  rotate_left
  ·intro w'
   go_simp
   with_reducible rfl
  rotate_left
  ·simp only [Act.put,List.setIfInBounds_toArray,List.set_cons_zero,List.set_cons_succ,zAR,zAS]
   rfl
  refine pure_ (i:=3) (N:=some 16) (v:=?_) (a':=?_) #[true,true,true,true,false,false,false,false,false,false,false,false,false,false,false,false,false,false,false,false,false,false,false,false,false] rfl rfl (zAM HT_.out (by kernel_rfl)) (fun _ _ _ h=>h) (Or.inl ⟨by rfl,?_⟩) ?_ ?_
  rotate_left
  ·intro w'
   go_simp
   with_reducible rfl
  rotate_left
  ·simp only [Act.put,List.setIfInBounds_toArray,List.set_cons_zero,List.set_cons_succ,zAR,zAS]
   rfl
  refine pure_ (i:=4) (N:=some 17) (v:=?_) (a':=?_) #[true,true,true,true,true,false,false,false,false,false,false,false,false,false,false,false,false,false,false,false,false,false,false,false,false] rfl rfl (zAM HT_.out (by kernel_rfl)) (fun _ _ _ h=>h) (Or.inl ⟨by rfl,?_⟩) ?_ ?_
  rotate_left
  ·intro w'
   go_simp
   with_reducible rfl
  rotate_left
  ·simp only [Act.put,List.setIfInBounds_toArray,List.set_cons_zero,List.set_cons_succ,zAR,zAS]
   rfl
  refine pure_ (i:=5) (N:=some 18) (v:=?_) (a':=?_) #[true,true,true,true,true,true,false,false,false,false,false,false,false,false,false,false,false,false,false,false,false,false,false,false,false] rfl rfl (zAM HT_.out (by kernel_rfl)) (fun _ _ _ h=>h) (Or.inl ⟨by rfl,?_⟩) ?_ ?_
  rotate_left
  ·intro w'
   go_simp
   with_reducible rfl
  rotate_left
  ·simp only [Act.put,List.setIfInBounds_toArray,List.set_cons_zero,List.set_cons_succ,zAR,zAS]
   rfl
  refine pure_ (i:=6) (N:=some 19) (v:=?_) (a':=?_) #[true,true,true,true,true,true,true,false,false,false,false,false,false,false,false,false,false,false,false,false,false,false,false,false,false] rfl rfl (zAM HT_.out (by kernel_rfl)) (fun _ _ _ h=>h) (Or.inl ⟨by rfl,?_⟩) ?_ ?_
  rotate_left
  ·intro w'
   go_simp
   with_reducible rfl
  rotate_left
  ·simp only [Act.put,List.setIfInBounds_toArray,List.set_cons_zero,List.set_cons_succ,zAR,zAS]
   rfl
  refine take_ (i:=7) (N:=some 20) (v:=?_) (a':=?_) #[true,true,true,true,true,true,true,true,false,false,false,false,false,false,false,false,false,false,false,false,false,false,false,false,false] rfl rfl (take_ofW HT_.out HW_.out (by kernel_rfl)) (fun _ _ _ h=>h) (Or.inl ⟨by rfl,?_⟩) hHeld ?_ ?_
  rotate_left
  ·rintro w' ⟨s0,s1⟩
   go_simp
   with_reducible rfl
  rotate_left
  ·simp only [Act.put,List.setIfInBounds_toArray,List.set_cons_zero,List.set_cons_succ,zAR,zAS]
   rfl
  refine one_ (i:=8) (N:=some 21) #[true,true,true,true,true,true,true,true,true,false,false,false,false,false,false,false,false,false,false,false,false,false,false,false,false] rfl rfl (one_of HT_.out (by kernel_rfl)) (by decide) (fun K hK=>?_)
  refine goes_ Tryd.func17 (by kernel_rfl) rfl #[.int .i64 (-15)] (by rfl) rfl rfl aM_ ?_
  with_reducible refine (wide_Of.calls (-15) t242 t243 _ A5.out).mono ?_
  rintro e w40 ⟨rfl,hb⟩
  refine ⟨_,rfl,?_⟩
  have n0_:=aK_ (zAC (g:=gb239) (o:=.cells #[.int .i64 t236,.int .u64 t237] 27 (0,0)) (aB_ BK239.out) hb)
  have n1_:=aK_ (zAD (aI_ HB.out GE239.out) hb)
  clear BK239
  clear HB
  have BK239:=n0_
  have HB:=n1_
  clear n0_ n1_
  (try clear hb)
  (try clear hb2)
  (try clear hk)
  (try clear hi)
  refine hK.out _ _ ⟨(zAA BK239.out 0).trans rfl,(zAA BK239.out 1).trans rfl⟩ (fun hHeld=>?_)
  clear hK K
  refine norm_ (a':=?_) ?_ ?_
  rotate_left
  ·show Act.put _ (some 21) _=_
   simp only [Act.put,List.setIfInBounds_toArray,List.set_cons_zero,List.set_cons_succ,zAR,zAS]
   rfl
  refine pure_ (i:=9) (N:=some 22) (v:=?_) (a':=?_) #[true,true,true,true,true,true,true,true,true,true,false,false,false,false,false,false,false,false,false,false,false,false,false,false,false] rfl rfl (zAM HT_.out (by kernel_rfl)) (fun _ _ _ h=>h) (Or.inl ⟨by rfl,?_⟩) ?_ ?_
  rotate_left
  ·intro w'
   go_simp
   with_reducible rfl
  rotate_left
  ·simp only [Act.put,List.setIfInBounds_toArray,List.set_cons_zero,List.set_cons_succ,zAR,zAS]
   rfl
  refine pure_ (i:=10) (N:=some 23) (v:=?_) (a':=?_) #[true,true,true,true,true,true,true,true,true,true,true,false,false,false,false,false,false,false,false,false,false,false,false,false,false] rfl rfl (zAM HT_.out (by kernel_rfl)) (fun _ _ _ h=>h) (Or.inl ⟨by rfl,?_⟩) ?_ ?_
  rotate_left
  ·intro w'
   go_simp
   with_reducible rfl
  rotate_left
  ·simp only [Act.put,List.setIfInBounds_toArray,List.set_cons_zero,List.set_cons_succ,zAR,zAS]
   rfl
  refine pure_ (i:=11) (N:=some 24) (v:=?_) (a':=?_) #[true,true,true,true,true,true,true,true,true,true,true,true,false,false,false,false,false,false,false,false,false,false,false,false,false] rfl rfl (zAM HT_.out (by kernel_rfl)) (fun _ _ _ h=>h) (Or.inl ⟨by rfl,?_⟩) ?_ ?_
  rotate_left
  ·intro w'
   go_simp
   with_reducible rfl
  rotate_left
  ·simp only [Act.put,List.setIfInBounds_toArray,List.set_cons_zero,List.set_cons_succ,zAR,zAS]
   rfl
  refine pure_ (i:=12) (N:=some 25) (v:=undef) (a':=?_) #[true,true,true,true,true,true,true,true,true,true,true,true,true,false,false,false,false,false,false,false,false,false,false,false,false] rfl rfl (zAM HT_.out (by kernel_rfl)) (fun _ _ _ h=>h) (Or.inr ⟨by rfl,rfl⟩) ?_ ?_
  rotate_left
  ·simp only [Act.put,List.setIfInBounds_toArray,List.set_cons_zero,List.set_cons_succ,zAR,zAS]
   rfl
  refine pure_ (i:=13) (N:=some 26) (v:=undef) (a':=?_) #[true,true,true,true,true,true,true,true,true,true,true,true,true,true,false,false,false,false,false,false,false,false,false,false,false] rfl rfl (zAM HT_.out (by kernel_rfl)) (fun _ _ _ h=>h) (Or.inr ⟨by rfl,rfl⟩) ?_ ?_
  rotate_left
  ·simp only [Act.put,List.setIfInBounds_toArray,List.set_cons_zero,List.set_cons_succ,zAR,zAS]
   rfl
  refine pure_ (i:=14) (N:=some 27) (v:=?_) (a':=?_) #[true,true,true,true,true,true,true,true,true,true,true,true,true,true,true,false,false,false,false,false,false,false,false,false,false] rfl rfl (zAM HT_.out (by kernel_rfl)) (fun _ _ _ h=>h) (Or.inl ⟨by rfl,?_⟩) ?_ ?_
  rotate_left
  ·intro w'
   go_simp
   with_reducible rfl
  rotate_left
  ·simp only [Act.put,List.setIfInBounds_toArray,List.set_cons_zero,List.set_cons_succ,zAR,zAS]
   rfl
  refine pure_ (i:=15) (N:=some 28) (v:=?_) (a':=?_) #[true,true,true,true,true,true,true,true,true,true,true,true,true,true,true,true,false,false,false,false,false,false,false,false,false] rfl rfl (zAM HT_.out (by kernel_rfl)) (fun _ _ _ h=>h) (Or.inl ⟨by rfl,?_⟩) ?_ ?_
  rotate_left
  ·intro w'
   go_simp
   with_reducible rfl
  rotate_left
  ·simp only [Act.put,List.setIfInBounds_toArray,List.set_cons_zero,List.set_cons_succ,zAR,zAS]
   rfl
  refine pure_ (i:=16) (N:=some 29) (v:=undef) (a':=?_) #[true,true,true,true,true,true,true,true,true,true,true,true,true,true,true,true,true,false,false,false,false,false,false,false,false] rfl rfl (zAM HT_.out (by kernel_rfl)) (fun _ _ _ h=>h) (Or.inr ⟨by rfl,rfl⟩) ?_ ?_
  rotate_left
  ·simp only [Act.put,List.setIfInBounds_toArray,List.set_cons_zero,List.set_cons_succ,zAR,zAS]
   rfl
  refine pure_ (i:=17) (N:=some 30) (v:=undef) (a':=?_) #[true,true,true,true,true,true,true,true,true,true,true,true,true,true,true,true,true,true,false,false,false,false,false,false,false] rfl rfl (zAM HT_.out (by kernel_rfl)) (fun _ _ _ h=>h) (Or.inr ⟨by rfl,rfl⟩) ?_ ?_
  rotate_left
  ·simp only [Act.put,List.setIfInBounds_toArray,List.set_cons_zero,List.set_cons_succ,zAR,zAS]
   rfl
  refine pure_ (i:=18) (N:=some 31) (v:=undef) (a':=?_) #[true,true,true,true,true,true,true,true,true,true,true,true,true,true,true,true,true,true,true,false,false,false,false,false,false] rfl rfl (zAM HT_.out (by kernel_rfl)) (fun _ _ _ h=>h) (Or.inr ⟨by rfl,rfl⟩) ?_ ?_
  rotate_left
  ·simp only [Act.put,List.setIfInBounds_toArray,List.set_cons_zero,List.set_cons_succ,zAR,zAS]
   rfl
  refine pure_ (i:=19) (N:=some 32) (v:=?_) (a':=?_) #[true,true,true,true,true,true,true,true,true,true,true,true,true,true,true,true,true,true,true,true,false,false,false,false,false] rfl rfl (zAM HT_.out (by kernel_rfl)) (fun _ _ _ h=>h) (Or.inl ⟨by rfl,?_⟩) ?_ ?_
  rotate_left
  ·intro w'
   go_simp
   with_reducible rfl
  rotate_left
  ·simp only [Act.put,List.setIfInBounds_toArray,List.set_cons_zero,List.set_cons_succ,zAR,zAS]
   rfl
  refine pure_ (i:=20) (N:=some 33) (v:=?_) (a':=?_) #[true,true,true,true,true,true,true,true,true,true,true,true,true,true,true,true,true,true,true,true,true,false,false,false,false] rfl rfl (zAM HT_.out (by kernel_rfl)) (fun _ _ _ h=>h) (Or.inl ⟨by rfl,?_⟩) ?_ ?_
  rotate_left
  ·intro w'
   go_simp
   with_reducible rfl
  rotate_left
  ·simp only [Act.put,List.setIfInBounds_toArray,List.set_cons_zero,List.set_cons_succ,zAR,zAS]
   rfl
  refine pure_ (i:=21) (N:=some 34) (v:=undef) (a':=?_) #[true,true,true,true,true,true,true,true,true,true,true,true,true,true,true,true,true,true,true,true,true,true,false,false,false] rfl rfl (zAM HT_.out (by kernel_rfl)) (fun _ _ _ h=>h) (Or.inr ⟨by rfl,rfl⟩) ?_ ?_
  rotate_left
  ·simp only [Act.put,List.setIfInBounds_toArray,List.set_cons_zero,List.set_cons_succ,zAR,zAS]
   rfl
  refine pure_ (i:=22) (N:=some 35) (v:=undef) (a':=?_) #[true,true,true,true,true,true,true,true,true,true,true,true,true,true,true,true,true,true,true,true,true,true,true,false,false] rfl rfl (zAM HT_.out (by kernel_rfl)) (fun _ _ _ h=>h) (Or.inr ⟨by rfl,rfl⟩) ?_ ?_
  rotate_left
  ·simp only [Act.put,List.setIfInBounds_toArray,List.set_cons_zero,List.set_cons_succ,zAR,zAS]
   rfl
  refine pure_ (i:=23) (N:=some 36) (v:=?_) (a':=?_) #[true,true,true,true,true,true,true,true,true,true,true,true,true,true,true,true,true,true,true,true,true,true,true,true,false] rfl rfl (zAM HT_.out (by kernel_rfl)) (fun _ _ _ h=>h) (Or.inl ⟨by rfl,?_⟩) ?_ ?_
  rotate_left
  ·intro w'
   go_simp
   with_reducible rfl
  rotate_left
  ·simp only [Act.put,List.setIfInBounds_toArray,List.set_cons_zero,List.set_cons_succ,zAR,zAS]
   rfl
  refine pure_ (i:=24) (N:=some 0) (v:=?_) (a':=?_) #[true,true,true,true,true,true,true,true,true,true,true,true,true,true,true,true,true,true,true,true,true,true,true,true,true] rfl rfl (zAM HT_.out (by kernel_rfl)) (fun _ _ _ h=>h) (Or.inl ⟨by rfl,?_⟩) ?_ ?_
  rotate_left
  ·intro w'
   go_simp
   with_reducible rfl
  rotate_left
  ·simp only [Act.put,List.setIfInBounds_toArray,List.set_cons_zero,List.set_cons_succ,zAR,zAS]
   rfl
  refine done_ (done_of HT_.out (by kernel_rfl)) ?_
  try go_wp2
  go_ret
  exact ⟨by first|rfl|(simp [zAK,zAL] <;> rfl)|(simp [*,zAK,zAL] <;> rfl),aI_ HB.out GE239.out⟩
 rw [if_pos c6] at H
 have c6b0:(t236 == t242 && (t237 == t243))=true:=c6
 (try (have c6b1:decide (t236=t242 && (t237 == t243))=true:=by simpa using c6))
 (try (have c6b2:(t236 == t242 && (t237 == t243))=true:=by simpa using c6))
 clear c6
 by_cases c7:t240=1230
 rotate_left
 ·rw [if_neg c7] at H
  have c7b0:(t240 == 1230)=false:=beq_eq_false_iff_ne.mpr c7
  have c7b1:(t240 != 1230)=true:=bne_iff_ne.mpr c7
  obtain rfl:=Option.some.inj H
  go_enter Tryd.func7,Tryd.ntmps7
  try go_wp2_with (first|((with_reducible refine zAI (f:=10) rfl ?_);refine goesL_ (some 6) rfl rfl Tryd.func10 (by kernel_rfl) rfl #[.string (⟨#[45,49,53]⟩:ByteArray)] rfl aM_ ?_;(with_reducible refine (zAP.calls k (⟨#[45,49,53]⟩:ByteArray) t236 t237 t238 _ A1.out).mono ?_);rintro e w29 ⟨rfl,hb⟩;refine ⟨_,rfl,?_⟩;have n0_:=aK_ (zAD (aH_ HB.out) hb);clear HB;have HB:=n0_;clear n0_;(try clear hb);(try clear hb2);(try clear hk);(try clear hi))|((with_reducible refine zAa (N:=1) rfl ?_);refine zAV ?hg (N:=1) ?hd (cs:=#[.int .i64 0,.int .u64 0]) (t:=27) ?hr ?_;(case hd=>rfl);(case hg=>rfl);(case hr=>first|(go_simp;done)|(go_simp;rfl));intro gb239 hg w30 hbox hb;have n0_:=aK_ (zAD (aH_ HB.out) hb);have n1_:=aK_ (hbox);have n2_:=aK_ ((by rw [hg];exact (zAE (aH_ HB.out)):w.heap.size≤gb239));have n3_:=aK_ ((by rw [hg];exact (zAE (aH_ HB.out)):w.heap.size≤gb239));clear HB;have HB:=n0_;have BK239:=n1_;have GW239:=n2_;have GE239:=n3_;clear n0_ n1_ n2_ n3_;clear hb hbox hg;have hcz31_0:w30.cell? ⟨gb239,0,none⟩=some (.int .i64 0):=(zAA BK239.out 0).trans rfl;have hcz31_1:w30.cell? ⟨gb239,1,none⟩=some (.int .u64 0):=(zAA BK239.out 1).trans rfl;have hfz31_0:=zAB BK239.out 0;have hfz31_1:=zAB BK239.out 1)|((with_reducible refine zAI (f:=12) rfl ?_);refine goesL_ (some 10) rfl rfl Tryd.func12 (by kernel_rfl) rfl #[.string (⟨#[49,50,46,51,48]⟩:ByteArray)] rfl aM_ ?_;(with_reducible refine (deci_Coins.calls (⟨#[49,50,46,51,48]⟩:ByteArray) t240 t241 _ ?side1 A2.out).mono ?_);(case side1=>(first|(with_reducible exact hG)|((repeat (with_reducible first|exact hG|apply GW.drewN|apply GW.drew|apply GW.alloc));done)|exact GW.below hG (aI_ HB.out GE239.out)));rintro e w32 ⟨rfl,hb⟩;refine ⟨_,rfl,?_⟩;have n0_:=aK_ (zAC (g:=gb239) (o:=.cells #[.int .i64 t236,.int .u64 t237] 27 (0,0)) (by refine aB_ ?_;refine zAU (cs:=#[.int .i64 t236,.int .u64 0]) ?_ 1 _ rfl;refine aB_ ?_;refine zAU (cs:=#[.int .i64 0,.int .u64 0]) ?_ 0 _ rfl;refine aB_ ?_;exact BK239.out) hb);have n1_:=aK_ (zAD (aI_ HB.out GE239.out) hb);clear BK239;clear HB;have BK239:=n0_;have HB:=n1_;clear n0_ n1_;(try clear hb);(try clear hb2);(try clear hk);(try clear hi)))
  have n0_:=aK_ (blk_drew BK239.out)
  have n1_:=aK_ (below_drew1 HB.out)
  clear BK239
  clear HB
  have BK239:=n0_
  have HB:=n1_
  clear n0_ n1_
  refine start_ (n:=25) (S:=fun w'=>w'.cell? ⟨gb239,0,none⟩=some (.int .i64 t236)∧w'.cell? ⟨gb239,1,none⟩=some (.int .u64 t237)) (ds:=[]) #[false,false,false,false,false,false,false,false,false,false,false,false,false,false,false,false,false,false,false,false,false,false,false,false,false] (by kernel_rfl) rfl rfl ⟨(zAA BK239.out 0).trans rfl,(zAA BK239.out 1).trans rfl⟩ (fun hHeld=>?_);refine with_tabW zAT.tab3 zAT.bits3 (fun HT_ HW_=>?_)
  generalize w32.drew=w33 at BK239 HB hHeld ⊢
  refine pure_ (i:=0) (N:=some 13) (v:=?_) (a':=?_) #[true,false,false,false,false,false,false,false,false,false,false,false,false,false,false,false,false,false,false,false,false,false,false,false,false] rfl rfl (zAM HT_.out (by kernel_rfl)) (fun _ _ _ h=>h) (Or.inl ⟨by rfl,?_⟩) ?_ ?_
  rotate_left
  ·intro w'
   go_simp
   with_reducible rfl
  rotate_left
  ·simp only [Act.put,List.setIfInBounds_toArray,List.set_cons_zero,List.set_cons_succ,zAR,zAS]
   rfl
  refine pure_ (i:=1) (N:=some 14) (v:=?_) (a':=?_) #[true,true,false,false,false,false,false,false,false,false,false,false,false,false,false,false,false,false,false,false,false,false,false,false,false] rfl rfl (zAM HT_.out (by kernel_rfl)) (fun _ _ _ h=>h) (Or.inl ⟨by rfl,?_⟩) ?_ ?_
  rotate_left
  ·intro w'
   go_simp
   with_reducible rfl
  rotate_left
  ·simp only [Act.put,List.setIfInBounds_toArray,List.set_cons_zero,List.set_cons_succ,zAR,zAS]
   rfl
  refine pure_ (i:=2) (N:=some 15) (v:=?_) (a':=?_) #[true,true,true,false,false,false,false,false,false,false,false,false,false,false,false,false,false,false,false,false,false,false,false,false,false] rfl rfl (zAM HT_.out (by kernel_rfl)) (fun _ _ _ h=>h) (Or.inl ⟨by rfl,?_⟩) ?_ ?_
  rotate_left
  ·intro w'
   go_simp
   with_reducible rfl
  rotate_left
  ·simp only [Act.put,List.setIfInBounds_toArray,List.set_cons_zero,List.set_cons_succ,zAR,zAS]
   rfl
  refine pure_ (i:=3) (N:=some 16) (v:=?_) (a':=?_) #[true,true,true,true,false,false,false,false,false,false,false,false,false,false,false,false,false,false,false,false,false,false,false,false,false] rfl rfl (zAM HT_.out (by kernel_rfl)) (fun _ _ _ h=>h) (Or.inl ⟨by rfl,?_⟩) ?_ ?_
  rotate_left
  ·intro w'
   go_simp
   with_reducible rfl
  rotate_left
  ·simp only [Act.put,List.setIfInBounds_toArray,List.set_cons_zero,List.set_cons_succ,zAR,zAS]
   rfl
  refine pure_ (i:=4) (N:=some 17) (v:=?_) (a':=?_) #[true,true,true,true,true,false,false,false,false,false,false,false,false,false,false,false,false,false,false,false,false,false,false,false,false] rfl rfl (zAM HT_.out (by kernel_rfl)) (fun _ _ _ h=>h) (Or.inl ⟨by rfl,?_⟩) ?_ ?_
  rotate_left
  ·intro w'
   go_simp
   with_reducible rfl
  rotate_left
  ·simp only [Act.put,List.setIfInBounds_toArray,List.set_cons_zero,List.set_cons_succ,zAR,zAS]
   rfl
  refine pure_ (i:=5) (N:=some 18) (v:=?_) (a':=?_) #[true,true,true,true,true,true,false,false,false,false,false,false,false,false,false,false,false,false,false,false,false,false,false,false,false] rfl rfl (zAM HT_.out (by kernel_rfl)) (fun _ _ _ h=>h) (Or.inl ⟨by rfl,?_⟩) ?_ ?_
  rotate_left
  ·intro w'
   go_simp
   with_reducible rfl
  rotate_left
  ·simp only [Act.put,List.setIfInBounds_toArray,List.set_cons_zero,List.set_cons_succ,zAR,zAS]
   rfl
  refine pure_ (i:=6) (N:=some 19) (v:=?_) (a':=?_) #[true,true,true,true,true,true,true,false,false,false,false,false,false,false,false,false,false,false,false,false,false,false,false,false,false] rfl rfl (zAM HT_.out (by kernel_rfl)) (fun _ _ _ h=>h) (Or.inl ⟨by rfl,?_⟩) ?_ ?_
  rotate_left
  ·intro w'
   go_simp
   with_reducible rfl
  rotate_left
  ·simp only [Act.put,List.setIfInBounds_toArray,List.set_cons_zero,List.set_cons_succ,zAR,zAS]
   rfl
  refine take_ (i:=7) (N:=some 20) (v:=?_) (a':=?_) #[true,true,true,true,true,true,true,true,false,false,false,false,false,false,false,false,false,false,false,false,false,false,false,false,false] rfl rfl (take_ofW HT_.out HW_.out (by kernel_rfl)) (fun _ _ _ h=>h) (Or.inl ⟨by rfl,?_⟩) hHeld ?_ ?_
  rotate_left
  ·rintro w' ⟨s0,s1⟩
   go_simp
   with_reducible rfl
  rotate_left
  ·simp only [Act.put,List.setIfInBounds_toArray,List.set_cons_zero,List.set_cons_succ,zAR,zAS]
   rfl
  refine one_ (i:=8) (N:=some 21) #[true,true,true,true,true,true,true,true,true,false,false,false,false,false,false,false,false,false,false,false,false,false,false,false,false] rfl rfl (one_of HT_.out (by kernel_rfl)) (by decide) (fun K hK=>?_)
  refine goes_ Tryd.func17 (by kernel_rfl) rfl #[.int .i64 (-15)] (by rfl) rfl rfl aM_ ?_
  with_reducible refine (wide_Of.calls (-15) t242 t243 _ A5.out).mono ?_
  rintro e w34 ⟨rfl,hb⟩
  refine ⟨_,rfl,?_⟩
  have n0_:=aK_ (zAC (g:=gb239) (o:=.cells #[.int .i64 t236,.int .u64 t237] 27 (0,0)) (aB_ BK239.out) hb)
  have n1_:=aK_ (zAD (aI_ HB.out GE239.out) hb)
  clear BK239
  clear HB
  have BK239:=n0_
  have HB:=n1_
  clear n0_ n1_
  (try clear hb)
  (try clear hb2)
  (try clear hk)
  (try clear hi)
  refine hK.out _ _ ⟨(zAA BK239.out 0).trans rfl,(zAA BK239.out 1).trans rfl⟩ (fun hHeld=>?_)
  clear hK K
  refine norm_ (a':=?_) ?_ ?_
  rotate_left
  ·show Act.put _ (some 21) _=_
   simp only [Act.put,List.setIfInBounds_toArray,List.set_cons_zero,List.set_cons_succ,zAR,zAS]
   rfl
  refine pure_ (i:=9) (N:=some 22) (v:=?_) (a':=?_) #[true,true,true,true,true,true,true,true,true,true,false,false,false,false,false,false,false,false,false,false,false,false,false,false,false] rfl rfl (zAM HT_.out (by kernel_rfl)) (fun _ _ _ h=>h) (Or.inl ⟨by rfl,?_⟩) ?_ ?_
  rotate_left
  ·intro w'
   go_simp
   with_reducible rfl
  rotate_left
  ·simp only [Act.put,List.setIfInBounds_toArray,List.set_cons_zero,List.set_cons_succ,zAR,zAS]
   rfl
  refine pure_ (i:=10) (N:=some 23) (v:=?_) (a':=?_) #[true,true,true,true,true,true,true,true,true,true,true,false,false,false,false,false,false,false,false,false,false,false,false,false,false] rfl rfl (zAM HT_.out (by kernel_rfl)) (fun _ _ _ h=>h) (Or.inl ⟨by rfl,?_⟩) ?_ ?_
  rotate_left
  ·intro w'
   go_simp
   with_reducible rfl
  rotate_left
  ·simp only [Act.put,List.setIfInBounds_toArray,List.set_cons_zero,List.set_cons_succ,zAR,zAS]
   rfl
  refine pure_ (i:=11) (N:=some 24) (v:=?_) (a':=?_) #[true,true,true,true,true,true,true,true,true,true,true,true,false,false,false,false,false,false,false,false,false,false,false,false,false] rfl rfl (zAM HT_.out (by kernel_rfl)) (fun _ _ _ h=>h) (Or.inl ⟨by rfl,?_⟩) ?_ ?_
  rotate_left
  ·intro w'
   go_simp
   with_reducible rfl
  rotate_left
  ·simp only [Act.put,List.setIfInBounds_toArray,List.set_cons_zero,List.set_cons_succ,zAR,zAS]
   rfl
  refine pure_ (i:=12) (N:=some 25) (v:=?_) (a':=?_) #[true,true,true,true,true,true,true,true,true,true,true,true,true,false,false,false,false,false,false,false,false,false,false,false,false] rfl rfl (zAM HT_.out (by kernel_rfl)) (fun _ _ _ h=>h) (Or.inl ⟨by rfl,?_⟩) ?_ ?_
  rotate_left
  ·intro w'
   go_simp
   with_reducible rfl
  rotate_left
  ·simp only [Act.put,List.setIfInBounds_toArray,List.set_cons_zero,List.set_cons_succ,zAR,zAS]
   rfl
  refine pure_ (i:=13) (N:=some 26) (v:=?_) (a':=?_) #[true,true,true,true,true,true,true,true,true,true,true,true,true,true,false,false,false,false,false,false,false,false,false,false,false] rfl rfl (zAM HT_.out (by kernel_rfl)) (fun _ _ _ h=>h) (Or.inl ⟨by rfl,?_⟩) ?_ ?_
  rotate_left
  ·intro w'
   go_simp
   with_reducible rfl
  rotate_left
  ·simp only [Act.put,List.setIfInBounds_toArray,List.set_cons_zero,List.set_cons_succ,zAR,zAS]
   rfl
  refine pure_ (i:=14) (N:=some 27) (v:=?_) (a':=?_) #[true,true,true,true,true,true,true,true,true,true,true,true,true,true,true,false,false,false,false,false,false,false,false,false,false] rfl rfl (zAM HT_.out (by kernel_rfl)) (fun _ _ _ h=>h) (Or.inl ⟨by rfl,?_⟩) ?_ ?_
  rotate_left
  ·intro w'
   go_simp
   with_reducible rfl
  rotate_left
  ·simp only [Act.put,List.setIfInBounds_toArray,List.set_cons_zero,List.set_cons_succ,zAR,zAS]
   rfl
  refine pure_ (i:=15) (N:=some 28) (v:=?_) (a':=?_) #[true,true,true,true,true,true,true,true,true,true,true,true,true,true,true,true,false,false,false,false,false,false,false,false,false] rfl rfl (zAM HT_.out (by kernel_rfl)) (fun _ _ _ h=>h) (Or.inl ⟨by rfl,?_⟩) ?_ ?_
  rotate_left
  ·intro w'
   go_simp
   with_reducible rfl
  rotate_left
  ·simp only [Act.put,List.setIfInBounds_toArray,List.set_cons_zero,List.set_cons_succ,zAR,zAS]
   rfl
  refine pure_ (i:=16) (N:=some 29) (v:=undef) (a':=?_) #[true,true,true,true,true,true,true,true,true,true,true,true,true,true,true,true,true,false,false,false,false,false,false,false,false] rfl rfl (zAM HT_.out (by kernel_rfl)) (fun _ _ _ h=>h) (Or.inr ⟨by rfl,rfl⟩) ?_ ?_
  rotate_left
  ·simp only [Act.put,List.setIfInBounds_toArray,List.set_cons_zero,List.set_cons_succ,zAR,zAS]
   rfl
  refine pure_ (i:=17) (N:=some 30) (v:=undef) (a':=?_) #[true,true,true,true,true,true,true,true,true,true,true,true,true,true,true,true,true,true,false,false,false,false,false,false,false] rfl rfl (zAM HT_.out (by kernel_rfl)) (fun _ _ _ h=>h) (Or.inr ⟨by rfl,rfl⟩) ?_ ?_
  rotate_left
  ·simp only [Act.put,List.setIfInBounds_toArray,List.set_cons_zero,List.set_cons_succ,zAR,zAS]
   rfl
  refine pure_ (i:=18) (N:=some 31) (v:=undef) (a':=?_) #[true,true,true,true,true,true,true,true,true,true,true,true,true,true,true,true,true,true,true,false,false,false,false,false,false] rfl rfl (zAM HT_.out (by kernel_rfl)) (fun _ _ _ h=>h) (Or.inr ⟨by rfl,rfl⟩) ?_ ?_
  rotate_left
  ·simp only [Act.put,List.setIfInBounds_toArray,List.set_cons_zero,List.set_cons_succ,zAR,zAS]
   rfl
  refine pure_ (i:=19) (N:=some 32) (v:=?_) (a':=?_) #[true,true,true,true,true,true,true,true,true,true,true,true,true,true,true,true,true,true,true,true,false,false,false,false,false] rfl rfl (zAM HT_.out (by kernel_rfl)) (fun _ _ _ h=>h) (Or.inl ⟨by rfl,?_⟩) ?_ ?_
  rotate_left
  ·intro w'
   go_simp
   with_reducible rfl
  rotate_left
  ·simp only [Act.put,List.setIfInBounds_toArray,List.set_cons_zero,List.set_cons_succ,zAR,zAS]
   rfl
  refine pure_ (i:=20) (N:=some 33) (v:=?_) (a':=?_) #[true,true,true,true,true,true,true,true,true,true,true,true,true,true,true,true,true,true,true,true,true,false,false,false,false] rfl rfl (zAM HT_.out (by kernel_rfl)) (fun _ _ _ h=>h) (Or.inl ⟨by rfl,?_⟩) ?_ ?_
  rotate_left
  ·intro w'
   go_simp
   with_reducible rfl
  rotate_left
  ·simp only [Act.put,List.setIfInBounds_toArray,List.set_cons_zero,List.set_cons_succ,zAR,zAS]
   rfl
  refine pure_ (i:=21) (N:=some 34) (v:=undef) (a':=?_) #[true,true,true,true,true,true,true,true,true,true,true,true,true,true,true,true,true,true,true,true,true,true,false,false,false] rfl rfl (zAM HT_.out (by kernel_rfl)) (fun _ _ _ h=>h) (Or.inr ⟨by rfl,rfl⟩) ?_ ?_
  rotate_left
  ·simp only [Act.put,List.setIfInBounds_toArray,List.set_cons_zero,List.set_cons_succ,zAR,zAS]
   rfl
  refine pure_ (i:=22) (N:=some 35) (v:=undef) (a':=?_) #[true,true,true,true,true,true,true,true,true,true,true,true,true,true,true,true,true,true,true,true,true,true,true,false,false] rfl rfl (zAM HT_.out (by kernel_rfl)) (fun _ _ _ h=>h) (Or.inr ⟨by rfl,rfl⟩) ?_ ?_
  rotate_left
  ·simp only [Act.put,List.setIfInBounds_toArray,List.set_cons_zero,List.set_cons_succ,zAR,zAS]
   rfl
  refine pure_ (i:=23) (N:=some 36) (v:=?_) (a':=?_) #[true,true,true,true,true,true,true,true,true,true,true,true,true,true,true,true,true,true,true,true,true,true,true,true,false] rfl rfl (zAM HT_.out (by kernel_rfl)) (fun _ _ _ h=>h) (Or.inl ⟨by rfl,?_⟩) ?_ ?_
  rotate_left
  ·intro w'
   go_simp
   with_reducible rfl
  rotate_left
  ·simp only [Act.put,List.setIfInBounds_toArray,List.set_cons_zero,List.set_cons_succ,zAR,zAS]
   rfl
  refine pure_ (i:=24) (N:=some 0) (v:=?_) (a':=?_) #[true,true,true,true,true,true,true,true,true,true,true,true,true,true,true,true,true,true,true,true,true,true,true,true,true] rfl rfl (zAM HT_.out (by kernel_rfl)) (fun _ _ _ h=>h) (Or.inl ⟨by rfl,?_⟩) ?_ ?_
  rotate_left
  ·intro w'
   go_simp
   with_reducible rfl
  rotate_left
  ·simp only [Act.put,List.setIfInBounds_toArray,List.set_cons_zero,List.set_cons_succ,zAR,zAS]
   rfl
  refine done_ (done_of HT_.out (by kernel_rfl)) ?_
  try go_wp2
  go_ret
  exact ⟨by first|rfl|(simp [zAK,zAL] <;> rfl)|(simp [*,zAK,zAL] <;> rfl),aI_ HB.out GE239.out⟩
 rw [if_pos c7] at H
 have c7b0:(t240 == 1230)=true:=beq_iff_eq.mpr c7
 have c7b1:(t240 != 1230)=false:=bne_eq_false_iff_eq.mpr c7
 clear c7
 replace H:=Option.bind_eq_some_iff.mp H
 obtain ⟨⟨t244,t245⟩,A80,H⟩:=H
 replace H:((deci_Text.f k t244 t245).bind fun t246=>(if t246.toList=([45,49,53]:List UInt8) then ((deci_Money.f k (-5)).bind fun t247=>(some (t247.toList == ([45,48,46,48,53]:List UInt8)))) else (some false)))=some r:=H
 have A8:=aK_ A80
 clear A80
 replace H:=Option.bind_eq_some_iff.mp H
 obtain ⟨t246,A90,H⟩:=H
 replace H:(if t246.toList=([45,49,53]:List UInt8) then ((deci_Money.f k (-5)).bind fun t247=>(some (t247.toList == ([45,48,46,48,53]:List UInt8)))) else (some false))=some r:=H
 have A9:=aK_ A90
 clear A90
 by_cases c10:t246.toList=([45,49,53]:List UInt8)
 rotate_left
 ·rw [if_neg c10] at H
  have c10b0:(t246.toList == ([45,49,53]:List UInt8))=false:=beq_eq_false_iff_ne.mpr c10
  have c10b1:(t246.toList != ([45,49,53]:List UInt8))=true:=bne_iff_ne.mpr c10
  obtain rfl:=Option.some.inj H
  go_enter Tryd.func7,Tryd.ntmps7
  try go_wp2_with (first|((with_reducible refine zAI (f:=10) rfl ?_);refine goesL_ (some 6) rfl rfl Tryd.func10 (by kernel_rfl) rfl #[.string (⟨#[45,49,53]⟩:ByteArray)] rfl aM_ ?_;(with_reducible refine (zAP.calls k (⟨#[45,49,53]⟩:ByteArray) t236 t237 t238 _ A1.out).mono ?_);rintro e w21 ⟨rfl,hb⟩;refine ⟨_,rfl,?_⟩;have n0_:=aK_ (zAD (aH_ HB.out) hb);clear HB;have HB:=n0_;clear n0_;(try clear hb);(try clear hb2);(try clear hk);(try clear hi))|((with_reducible refine zAa (N:=1) rfl ?_);refine zAV ?hg (N:=1) ?hd (cs:=#[.int .i64 0,.int .u64 0]) (t:=27) ?hr ?_;(case hd=>rfl);(case hg=>rfl);(case hr=>first|(go_simp;done)|(go_simp;rfl));intro gb239 hg w22 hbox hb;have n0_:=aK_ (zAD (aH_ HB.out) hb);have n1_:=aK_ (hbox);have n2_:=aK_ ((by rw [hg];exact (zAE (aH_ HB.out)):w.heap.size≤gb239));have n3_:=aK_ ((by rw [hg];exact (zAE (aH_ HB.out)):w.heap.size≤gb239));clear HB;have HB:=n0_;have BK239:=n1_;have GW239:=n2_;have GE239:=n3_;clear n0_ n1_ n2_ n3_;clear hb hbox hg;have hcz23_0:w22.cell? ⟨gb239,0,none⟩=some (.int .i64 0):=(zAA BK239.out 0).trans rfl;have hcz23_1:w22.cell? ⟨gb239,1,none⟩=some (.int .u64 0):=(zAA BK239.out 1).trans rfl;have hfz23_0:=zAB BK239.out 0;have hfz23_1:=zAB BK239.out 1)|((with_reducible refine zAI (f:=12) rfl ?_);refine goesL_ (some 10) rfl rfl Tryd.func12 (by kernel_rfl) rfl #[.string (⟨#[49,50,46,51,48]⟩:ByteArray)] rfl aM_ ?_;(with_reducible refine (deci_Coins.calls (⟨#[49,50,46,51,48]⟩:ByteArray) t240 t241 _ ?side1 A2.out).mono ?_);(case side1=>(first|(with_reducible exact hG)|((repeat (with_reducible first|exact hG|apply GW.drewN|apply GW.drew|apply GW.alloc));done)|exact GW.below hG (aI_ HB.out GE239.out)));rintro e w24 ⟨rfl,hb⟩;refine ⟨_,rfl,?_⟩;have n0_:=aK_ (zAC (g:=gb239) (o:=.cells #[.int .i64 t236,.int .u64 t237] 27 (0,0)) (by refine aB_ ?_;refine zAU (cs:=#[.int .i64 t236,.int .u64 0]) ?_ 1 _ rfl;refine aB_ ?_;refine zAU (cs:=#[.int .i64 0,.int .u64 0]) ?_ 0 _ rfl;refine aB_ ?_;exact BK239.out) hb);have n1_:=aK_ (zAD (aI_ HB.out GE239.out) hb);clear BK239;clear HB;have BK239:=n0_;have HB:=n1_;clear n0_ n1_;(try clear hb);(try clear hb2);(try clear hk);(try clear hi)))
  have n0_:=aK_ (blk_drew BK239.out)
  have n1_:=aK_ (below_drew1 HB.out)
  clear BK239
  clear HB
  have BK239:=n0_
  have HB:=n1_
  clear n0_ n1_
  refine start_ (n:=25) (S:=fun w'=>w'.cell? ⟨gb239,0,none⟩=some (.int .i64 t236)∧w'.cell? ⟨gb239,1,none⟩=some (.int .u64 t237)) (ds:=[]) #[false,false,false,false,false,false,false,false,false,false,false,false,false,false,false,false,false,false,false,false,false,false,false,false,false] (by kernel_rfl) rfl rfl ⟨(zAA BK239.out 0).trans rfl,(zAA BK239.out 1).trans rfl⟩ (fun hHeld=>?_);refine with_tabW zAT.tab3 zAT.bits3 (fun HT_ HW_=>?_)
  generalize w24.drew=w25 at BK239 HB hHeld ⊢
  refine pure_ (i:=0) (N:=some 13) (v:=?_) (a':=?_) #[true,false,false,false,false,false,false,false,false,false,false,false,false,false,false,false,false,false,false,false,false,false,false,false,false] rfl rfl (zAM HT_.out (by kernel_rfl)) (fun _ _ _ h=>h) (Or.inl ⟨by rfl,?_⟩) ?_ ?_
  rotate_left
  ·intro w'
   go_simp
   with_reducible rfl
  rotate_left
  ·simp only [Act.put,List.setIfInBounds_toArray,List.set_cons_zero,List.set_cons_succ,zAR,zAS]
   rfl
  refine pure_ (i:=1) (N:=some 14) (v:=?_) (a':=?_) #[true,true,false,false,false,false,false,false,false,false,false,false,false,false,false,false,false,false,false,false,false,false,false,false,false] rfl rfl (zAM HT_.out (by kernel_rfl)) (fun _ _ _ h=>h) (Or.inl ⟨by rfl,?_⟩) ?_ ?_
  rotate_left
  ·intro w'
   go_simp
   with_reducible rfl
  rotate_left
  ·simp only [Act.put,List.setIfInBounds_toArray,List.set_cons_zero,List.set_cons_succ,zAR,zAS]
   rfl
  refine pure_ (i:=2) (N:=some 15) (v:=?_) (a':=?_) #[true,true,true,false,false,false,false,false,false,false,false,false,false,false,false,false,false,false,false,false,false,false,false,false,false] rfl rfl (zAM HT_.out (by kernel_rfl)) (fun _ _ _ h=>h) (Or.inl ⟨by rfl,?_⟩) ?_ ?_
  rotate_left
  ·intro w'
   go_simp
   with_reducible rfl
  rotate_left
  ·simp only [Act.put,List.setIfInBounds_toArray,List.set_cons_zero,List.set_cons_succ,zAR,zAS]
   rfl
  refine pure_ (i:=3) (N:=some 16) (v:=?_) (a':=?_) #[true,true,true,true,false,false,false,false,false,false,false,false,false,false,false,false,false,false,false,false,false,false,false,false,false] rfl rfl (zAM HT_.out (by kernel_rfl)) (fun _ _ _ h=>h) (Or.inl ⟨by rfl,?_⟩) ?_ ?_
  rotate_left
  ·intro w'
   go_simp
   with_reducible rfl
  rotate_left
  ·simp only [Act.put,List.setIfInBounds_toArray,List.set_cons_zero,List.set_cons_succ,zAR,zAS]
   rfl
  refine pure_ (i:=4) (N:=some 17) (v:=?_) (a':=?_) #[true,true,true,true,true,false,false,false,false,false,false,false,false,false,false,false,false,false,false,false,false,false,false,false,false] rfl rfl (zAM HT_.out (by kernel_rfl)) (fun _ _ _ h=>h) (Or.inl ⟨by rfl,?_⟩) ?_ ?_
  rotate_left
  ·intro w'
   go_simp
   with_reducible rfl
  rotate_left
  ·simp only [Act.put,List.setIfInBounds_toArray,List.set_cons_zero,List.set_cons_succ,zAR,zAS]
   rfl
  refine pure_ (i:=5) (N:=some 18) (v:=?_) (a':=?_) #[true,true,true,true,true,true,false,false,false,false,false,false,false,false,false,false,false,false,false,false,false,false,false,false,false] rfl rfl (zAM HT_.out (by kernel_rfl)) (fun _ _ _ h=>h) (Or.inl ⟨by rfl,?_⟩) ?_ ?_
  rotate_left
  ·intro w'
   go_simp
   with_reducible rfl
  rotate_left
  ·simp only [Act.put,List.setIfInBounds_toArray,List.set_cons_zero,List.set_cons_succ,zAR,zAS]
   rfl
  refine pure_ (i:=6) (N:=some 19) (v:=?_) (a':=?_) #[true,true,true,true,true,true,true,false,false,false,false,false,false,false,false,false,false,false,false,false,false,false,false,false,false] rfl rfl (zAM HT_.out (by kernel_rfl)) (fun _ _ _ h=>h) (Or.inl ⟨by rfl,?_⟩) ?_ ?_
  rotate_left
  ·intro w'
   go_simp
   with_reducible rfl
  rotate_left
  ·simp only [Act.put,List.setIfInBounds_toArray,List.set_cons_zero,List.set_cons_succ,zAR,zAS]
   rfl
  refine take_ (i:=7) (N:=some 20) (v:=?_) (a':=?_) #[true,true,true,true,true,true,true,true,false,false,false,false,false,false,false,false,false,false,false,false,false,false,false,false,false] rfl rfl (take_ofW HT_.out HW_.out (by kernel_rfl)) (fun _ _ _ h=>h) (Or.inl ⟨by rfl,?_⟩) hHeld ?_ ?_
  rotate_left
  ·rintro w' ⟨s0,s1⟩
   go_simp
   with_reducible rfl
  rotate_left
  ·simp only [Act.put,List.setIfInBounds_toArray,List.set_cons_zero,List.set_cons_succ,zAR,zAS]
   rfl
  refine one_ (i:=8) (N:=some 21) #[true,true,true,true,true,true,true,true,true,false,false,false,false,false,false,false,false,false,false,false,false,false,false,false,false] rfl rfl (one_of HT_.out (by kernel_rfl)) (by decide) (fun K hK=>?_)
  refine goes_ Tryd.func17 (by kernel_rfl) rfl #[.int .i64 (-15)] (by rfl) rfl rfl aM_ ?_
  with_reducible refine (wide_Of.calls (-15) t242 t243 _ A5.out).mono ?_
  rintro e w26 ⟨rfl,hb⟩
  refine ⟨_,rfl,?_⟩
  have n0_:=aK_ (zAC (g:=gb239) (o:=.cells #[.int .i64 t236,.int .u64 t237] 27 (0,0)) (aB_ BK239.out) hb)
  have n1_:=aK_ (zAD (aI_ HB.out GE239.out) hb)
  clear BK239
  clear HB
  have BK239:=n0_
  have HB:=n1_
  clear n0_ n1_
  (try clear hb)
  (try clear hb2)
  (try clear hk)
  (try clear hi)
  refine hK.out _ _ ⟨(zAA BK239.out 0).trans rfl,(zAA BK239.out 1).trans rfl⟩ (fun hHeld=>?_)
  clear hK K
  refine norm_ (a':=?_) ?_ ?_
  rotate_left
  ·show Act.put _ (some 21) _=_
   simp only [Act.put,List.setIfInBounds_toArray,List.set_cons_zero,List.set_cons_succ,zAR,zAS]
   rfl
  refine pure_ (i:=9) (N:=some 22) (v:=?_) (a':=?_) #[true,true,true,true,true,true,true,true,true,true,false,false,false,false,false,false,false,false,false,false,false,false,false,false,false] rfl rfl (zAM HT_.out (by kernel_rfl)) (fun _ _ _ h=>h) (Or.inl ⟨by rfl,?_⟩) ?_ ?_
  rotate_left
  ·intro w'
   go_simp
   with_reducible rfl
  rotate_left
  ·simp only [Act.put,List.setIfInBounds_toArray,List.set_cons_zero,List.set_cons_succ,zAR,zAS]
   rfl
  refine pure_ (i:=10) (N:=some 23) (v:=?_) (a':=?_) #[true,true,true,true,true,true,true,true,true,true,true,false,false,false,false,false,false,false,false,false,false,false,false,false,false] rfl rfl (zAM HT_.out (by kernel_rfl)) (fun _ _ _ h=>h) (Or.inl ⟨by rfl,?_⟩) ?_ ?_
  rotate_left
  ·intro w'
   go_simp
   with_reducible rfl
  rotate_left
  ·simp only [Act.put,List.setIfInBounds_toArray,List.set_cons_zero,List.set_cons_succ,zAR,zAS]
   rfl
  refine pure_ (i:=11) (N:=some 24) (v:=?_) (a':=?_) #[true,true,true,true,true,true,true,true,true,true,true,true,false,false,false,false,false,false,false,false,false,false,false,false,false] rfl rfl (zAM HT_.out (by kernel_rfl)) (fun _ _ _ h=>h) (Or.inl ⟨by rfl,?_⟩) ?_ ?_
  rotate_left
  ·intro w'
   go_simp
   with_reducible rfl
  rotate_left
  ·simp only [Act.put,List.setIfInBounds_toArray,List.set_cons_zero,List.set_cons_succ,zAR,zAS]
   rfl
  refine pure_ (i:=12) (N:=some 25) (v:=?_) (a':=?_) #[true,true,true,true,true,true,true,true,true,true,true,true,true,false,false,false,false,false,false,false,false,false,false,false,false] rfl rfl (zAM HT_.out (by kernel_rfl)) (fun _ _ _ h=>h) (Or.inl ⟨by rfl,?_⟩) ?_ ?_
  rotate_left
  ·intro w'
   go_simp
   with_reducible rfl
  rotate_left
  ·simp only [Act.put,List.setIfInBounds_toArray,List.set_cons_zero,List.set_cons_succ,zAR,zAS]
   rfl
  refine pure_ (i:=13) (N:=some 26) (v:=?_) (a':=?_) #[true,true,true,true,true,true,true,true,true,true,true,true,true,true,false,false,false,false,false,false,false,false,false,false,false] rfl rfl (zAM HT_.out (by kernel_rfl)) (fun _ _ _ h=>h) (Or.inl ⟨by rfl,?_⟩) ?_ ?_
  rotate_left
  ·intro w'
   go_simp
   with_reducible rfl
  rotate_left
  ·simp only [Act.put,List.setIfInBounds_toArray,List.set_cons_zero,List.set_cons_succ,zAR,zAS]
   rfl
  refine pure_ (i:=14) (N:=some 27) (v:=?_) (a':=?_) #[true,true,true,true,true,true,true,true,true,true,true,true,true,true,true,false,false,false,false,false,false,false,false,false,false] rfl rfl (zAM HT_.out (by kernel_rfl)) (fun _ _ _ h=>h) (Or.inl ⟨by rfl,?_⟩) ?_ ?_
  rotate_left
  ·intro w'
   go_simp
   with_reducible rfl
  rotate_left
  ·simp only [Act.put,List.setIfInBounds_toArray,List.set_cons_zero,List.set_cons_succ,zAR,zAS]
   rfl
  refine pure_ (i:=15) (N:=some 28) (v:=?_) (a':=?_) #[true,true,true,true,true,true,true,true,true,true,true,true,true,true,true,true,false,false,false,false,false,false,false,false,false] rfl rfl (zAM HT_.out (by kernel_rfl)) (fun _ _ _ h=>h) (Or.inl ⟨by rfl,?_⟩) ?_ ?_
  rotate_left
  ·intro w'
   go_simp
   with_reducible rfl
  rotate_left
  ·simp only [Act.put,List.setIfInBounds_toArray,List.set_cons_zero,List.set_cons_succ,zAR,zAS]
   rfl
  refine one_ (i:=16) (N:=some 29) #[true,true,true,true,true,true,true,true,true,true,true,true,true,true,true,true,true,false,false,false,false,false,false,false,false] rfl rfl (one_of HT_.out (by kernel_rfl)) (by decide) (fun K hK=>?_)
  refine goes_ Tryd.func17 (by kernel_rfl) rfl #[.int .i64 (-15)] (by rfl) rfl rfl aM_ ?_
  with_reducible refine (wide_Of.calls (-15) t244 t245 _ A8.out).mono ?_
  rintro e w27 ⟨rfl,hb⟩
  refine ⟨_,rfl,?_⟩
  have n0_:=aK_ (zAC (g:=gb239) (o:=.cells #[.int .i64 t236,.int .u64 t237] 27 (0,0)) (aB_ BK239.out) hb)
  have n1_:=aK_ (zAD (aI_ HB.out GE239.out) hb)
  clear BK239
  clear HB
  have BK239:=n0_
  have HB:=n1_
  clear n0_ n1_
  (try clear hb)
  (try clear hb2)
  (try clear hk)
  (try clear hi)
  refine hK.out _ _ ⟨(zAA BK239.out 0).trans rfl,(zAA BK239.out 1).trans rfl⟩ (fun hHeld=>?_)
  clear hK K
  refine norm_ (a':=?_) ?_ ?_
  rotate_left
  ·show Act.put _ (some 29) _=_
   simp only [Act.put,List.setIfInBounds_toArray,List.set_cons_zero,List.set_cons_succ,zAR,zAS]
   rfl
  refine one_ (i:=17) (N:=some 30) #[true,true,true,true,true,true,true,true,true,true,true,true,true,true,true,true,true,true,false,false,false,false,false,false,false] rfl rfl (one_of HT_.out (by kernel_rfl)) (by decide) (fun K hK=>?_)
  refine goes_ Tryd.func8 (by kernel_rfl) rfl #[.agg #[.int .i64 t244,.int .u64 t245]] (by rfl) rfl rfl aM_ ?_
  with_reducible refine (deci_Text.calls k t244 t245 t246 _ ?side1 A9.out).mono ?_
  (case side1=>(first|(with_reducible exact hG)|((repeat (with_reducible first|exact hG|apply GW.drewN|apply GW.drew|apply GW.alloc));done)|exact GW.below hG (aI_ HB.out GE239.out)))
  rintro e w28 ⟨rfl,hb⟩
  refine ⟨_,rfl,?_⟩
  have n0_:=aK_ (zAC (g:=gb239) (o:=.cells #[.int .i64 t236,.int .u64 t237] 27 (0,0)) (aB_ BK239.out) hb)
  have n1_:=aK_ (zAD (aI_ HB.out GE239.out) hb)
  clear BK239
  clear HB
  have BK239:=n0_
  have HB:=n1_
  clear n0_ n1_
  (try clear hb)
  (try clear hb2)
  (try clear hk)
  (try clear hi)
  refine hK.out _ _ ⟨(zAA BK239.out 0).trans rfl,(zAA BK239.out 1).trans rfl⟩ (fun hHeld=>?_)
  clear hK K
  refine norm_ (a':=?_) ?_ ?_
  rotate_left
  ·show Act.put _ (some 30) _=_
   simp only [Act.put,List.setIfInBounds_toArray,List.set_cons_zero,List.set_cons_succ,zAR,zAS]
   rfl
  refine pure_ (i:=18) (N:=some 31) (v:=?_) (a':=?_) #[true,true,true,true,true,true,true,true,true,true,true,true,true,true,true,true,true,true,true,false,false,false,false,false,false] rfl rfl (zAM HT_.out (by kernel_rfl)) (fun _ _ _ h=>h) (Or.inl ⟨by rfl,?_⟩) ?_ ?_
  rotate_left
  ·intro w'
   go_simp
   with_reducible rfl
  rotate_left
  ·simp only [Act.put,List.setIfInBounds_toArray,List.set_cons_zero,List.set_cons_succ,zAR,zAS]
   rfl
  refine pure_ (i:=19) (N:=some 32) (v:=?_) (a':=?_) #[true,true,true,true,true,true,true,true,true,true,true,true,true,true,true,true,true,true,true,true,false,false,false,false,false] rfl rfl (zAM HT_.out (by kernel_rfl)) (fun _ _ _ h=>h) (Or.inl ⟨by rfl,?_⟩) ?_ ?_
  rotate_left
  ·intro w'
   go_simp
   with_reducible rfl
  rotate_left
  ·simp only [Act.put,List.setIfInBounds_toArray,List.set_cons_zero,List.set_cons_succ,zAR,zAS]
   rfl
  refine pure_ (i:=20) (N:=some 33) (v:=?_) (a':=?_) #[true,true,true,true,true,true,true,true,true,true,true,true,true,true,true,true,true,true,true,true,true,false,false,false,false] rfl rfl (zAM HT_.out (by kernel_rfl)) (fun _ _ _ h=>h) (Or.inl ⟨by rfl,?_⟩) ?_ ?_
  rotate_left
  ·intro w'
   go_simp
   with_reducible rfl
  rotate_left
  ·simp only [Act.put,List.setIfInBounds_toArray,List.set_cons_zero,List.set_cons_succ,zAR,zAS]
   rfl
  refine pure_ (i:=21) (N:=some 34) (v:=undef) (a':=?_) #[true,true,true,true,true,true,true,true,true,true,true,true,true,true,true,true,true,true,true,true,true,true,false,false,false] rfl rfl (zAM HT_.out (by kernel_rfl)) (fun _ _ _ h=>h) (Or.inr ⟨by rfl,rfl⟩) ?_ ?_
  rotate_left
  ·simp only [Act.put,List.setIfInBounds_toArray,List.set_cons_zero,List.set_cons_succ,zAR,zAS]
   rfl
  refine pure_ (i:=22) (N:=some 35) (v:=undef) (a':=?_) #[true,true,true,true,true,true,true,true,true,true,true,true,true,true,true,true,true,true,true,true,true,true,true,false,false] rfl rfl (zAM HT_.out (by kernel_rfl)) (fun _ _ _ h=>h) (Or.inr ⟨by rfl,rfl⟩) ?_ ?_
  rotate_left
  ·simp only [Act.put,List.setIfInBounds_toArray,List.set_cons_zero,List.set_cons_succ,zAR,zAS]
   rfl
  refine pure_ (i:=23) (N:=some 36) (v:=?_) (a':=?_) #[true,true,true,true,true,true,true,true,true,true,true,true,true,true,true,true,true,true,true,true,true,true,true,true,false] rfl rfl (zAM HT_.out (by kernel_rfl)) (fun _ _ _ h=>h) (Or.inl ⟨by rfl,?_⟩) ?_ ?_
  rotate_left
  ·intro w'
   go_simp
   with_reducible rfl
  rotate_left
  ·simp only [Act.put,List.setIfInBounds_toArray,List.set_cons_zero,List.set_cons_succ,zAR,zAS]
   rfl
  refine pure_ (i:=24) (N:=some 0) (v:=?_) (a':=?_) #[true,true,true,true,true,true,true,true,true,true,true,true,true,true,true,true,true,true,true,true,true,true,true,true,true] rfl rfl (zAM HT_.out (by kernel_rfl)) (fun _ _ _ h=>h) (Or.inl ⟨by rfl,?_⟩) ?_ ?_
  rotate_left
  ·intro w'
   go_simp
   with_reducible rfl
  rotate_left
  ·simp only [Act.put,List.setIfInBounds_toArray,List.set_cons_zero,List.set_cons_succ,zAR,zAS]
   rfl
  refine done_ (done_of HT_.out (by kernel_rfl)) ?_
  try go_wp2
  go_ret
  exact ⟨by first|rfl|(simp [zAK,zAL] <;> rfl)|(simp [*,zAK,zAL] <;> rfl),aI_ HB.out GE239.out⟩
 rw [if_pos c10] at H
 have c10b0:(t246.toList == ([45,49,53]:List UInt8))=true:=beq_iff_eq.mpr c10
 have c10b1:(t246.toList != ([45,49,53]:List UInt8))=false:=bne_eq_false_iff_eq.mpr c10
 clear c10
 replace H:=Option.bind_eq_some_iff.mp H
 obtain ⟨t247,A110,H⟩:=H
 replace H:(some (t247.toList == ([45,48,46,48,53]:List UInt8)))=some r:=H
 have A11:=aK_ A110
 clear A110
 obtain rfl:=Option.some.inj H
 go_enter Tryd.func7,Tryd.ntmps7
 try go_wp2_with (first|((with_reducible refine zAI (f:=10) rfl ?_);refine goesL_ (some 6) rfl rfl Tryd.func10 (by kernel_rfl) rfl #[.string (⟨#[45,49,53]⟩:ByteArray)] rfl aM_ ?_;(with_reducible refine (zAP.calls k (⟨#[45,49,53]⟩:ByteArray) t236 t237 t238 _ A1.out).mono ?_);rintro e w12 ⟨rfl,hb⟩;refine ⟨_,rfl,?_⟩;have n0_:=aK_ (zAD (aH_ HB.out) hb);clear HB;have HB:=n0_;clear n0_;(try clear hb);(try clear hb2);(try clear hk);(try clear hi))|((with_reducible refine zAa (N:=1) rfl ?_);refine zAV ?hg (N:=1) ?hd (cs:=#[.int .i64 0,.int .u64 0]) (t:=27) ?hr ?_;(case hd=>rfl);(case hg=>rfl);(case hr=>first|(go_simp;done)|(go_simp;rfl));intro gb239 hg w13 hbox hb;have n0_:=aK_ (zAD (aH_ HB.out) hb);have n1_:=aK_ (hbox);have n2_:=aK_ ((by rw [hg];exact (zAE (aH_ HB.out)):w.heap.size≤gb239));have n3_:=aK_ ((by rw [hg];exact (zAE (aH_ HB.out)):w.heap.size≤gb239));clear HB;have HB:=n0_;have BK239:=n1_;have GW239:=n2_;have GE239:=n3_;clear n0_ n1_ n2_ n3_;clear hb hbox hg;have hcz14_0:w13.cell? ⟨gb239,0,none⟩=some (.int .i64 0):=(zAA BK239.out 0).trans rfl;have hcz14_1:w13.cell? ⟨gb239,1,none⟩=some (.int .u64 0):=(zAA BK239.out 1).trans rfl;have hfz14_0:=zAB BK239.out 0;have hfz14_1:=zAB BK239.out 1)|((with_reducible refine zAI (f:=12) rfl ?_);refine goesL_ (some 10) rfl rfl Tryd.func12 (by kernel_rfl) rfl #[.string (⟨#[49,50,46,51,48]⟩:ByteArray)] rfl aM_ ?_;(with_reducible refine (deci_Coins.calls (⟨#[49,50,46,51,48]⟩:ByteArray) t240 t241 _ ?side1 A2.out).mono ?_);(case side1=>(first|(with_reducible exact hG)|((repeat (with_reducible first|exact hG|apply GW.drewN|apply GW.drew|apply GW.alloc));done)|exact GW.below hG (aI_ HB.out GE239.out)));rintro e w15 ⟨rfl,hb⟩;refine ⟨_,rfl,?_⟩;have n0_:=aK_ (zAC (g:=gb239) (o:=.cells #[.int .i64 t236,.int .u64 t237] 27 (0,0)) (by refine aB_ ?_;refine zAU (cs:=#[.int .i64 t236,.int .u64 0]) ?_ 1 _ rfl;refine aB_ ?_;refine zAU (cs:=#[.int .i64 0,.int .u64 0]) ?_ 0 _ rfl;refine aB_ ?_;exact BK239.out) hb);have n1_:=aK_ (zAD (aI_ HB.out GE239.out) hb);clear BK239;clear HB;have BK239:=n0_;have HB:=n1_;clear n0_ n1_;(try clear hb);(try clear hb2);(try clear hk);(try clear hi)))
 have n0_:=aK_ (blk_drew BK239.out)
 have n1_:=aK_ (below_drew1 HB.out)
 clear BK239
 clear HB
 have BK239:=n0_
 have HB:=n1_
 clear n0_ n1_
 refine start_ (n:=25) (S:=fun w'=>w'.cell? ⟨gb239,0,none⟩=some (.int .i64 t236)∧w'.cell? ⟨gb239,1,none⟩=some (.int .u64 t237)) (ds:=[]) #[false,false,false,false,false,false,false,false,false,false,false,false,false,false,false,false,false,false,false,false,false,false,false,false,false] (by kernel_rfl) rfl rfl ⟨(zAA BK239.out 0).trans rfl,(zAA BK239.out 1).trans rfl⟩ (fun hHeld=>?_);refine with_tabW zAT.tab3 zAT.bits3 (fun HT_ HW_=>?_)
 generalize w15.drew=w16 at BK239 HB hHeld ⊢
 refine pure_ (i:=0) (N:=some 13) (v:=?_) (a':=?_) #[true,false,false,false,false,false,false,false,false,false,false,false,false,false,false,false,false,false,false,false,false,false,false,false,false] rfl rfl (zAM HT_.out (by kernel_rfl)) (fun _ _ _ h=>h) (Or.inl ⟨by rfl,?_⟩) ?_ ?_
 rotate_left
 ·intro w'
  go_simp
  with_reducible rfl
 rotate_left
 ·simp only [Act.put,List.setIfInBounds_toArray,List.set_cons_zero,List.set_cons_succ,zAR,zAS]
  rfl
 refine pure_ (i:=1) (N:=some 14) (v:=?_) (a':=?_) #[true,true,false,false,false,false,false,false,false,false,false,false,false,false,false,false,false,false,false,false,false,false,false,false,false] rfl rfl (zAM HT_.out (by kernel_rfl)) (fun _ _ _ h=>h) (Or.inl ⟨by rfl,?_⟩) ?_ ?_
 rotate_left
 ·intro w'
  go_simp
  with_reducible rfl
 rotate_left
 ·simp only [Act.put,List.setIfInBounds_toArray,List.set_cons_zero,List.set_cons_succ,zAR,zAS]
  rfl
 refine pure_ (i:=2) (N:=some 15) (v:=?_) (a':=?_) #[true,true,true,false,false,false,false,false,false,false,false,false,false,false,false,false,false,false,false,false,false,false,false,false,false] rfl rfl (zAM HT_.out (by kernel_rfl)) (fun _ _ _ h=>h) (Or.inl ⟨by rfl,?_⟩) ?_ ?_
 rotate_left
 ·intro w'
  go_simp
  with_reducible rfl
 rotate_left
 ·simp only [Act.put,List.setIfInBounds_toArray,List.set_cons_zero,List.set_cons_succ,zAR,zAS]
  rfl
 refine pure_ (i:=3) (N:=some 16) (v:=?_) (a':=?_) #[true,true,true,true,false,false,false,false,false,false,false,false,false,false,false,false,false,false,false,false,false,false,false,false,false] rfl rfl (zAM HT_.out (by kernel_rfl)) (fun _ _ _ h=>h) (Or.inl ⟨by rfl,?_⟩) ?_ ?_
 rotate_left
 ·intro w'
  go_simp
  with_reducible rfl
 rotate_left
 ·simp only [Act.put,List.setIfInBounds_toArray,List.set_cons_zero,List.set_cons_succ,zAR,zAS]
  rfl
 refine pure_ (i:=4) (N:=some 17) (v:=?_) (a':=?_) #[true,true,true,true,true,false,false,false,false,false,false,false,false,false,false,false,false,false,false,false,false,false,false,false,false] rfl rfl (zAM HT_.out (by kernel_rfl)) (fun _ _ _ h=>h) (Or.inl ⟨by rfl,?_⟩) ?_ ?_
 rotate_left
 ·intro w'
  go_simp
  with_reducible rfl
 rotate_left
 ·simp only [Act.put,List.setIfInBounds_toArray,List.set_cons_zero,List.set_cons_succ,zAR,zAS]
  rfl
 refine pure_ (i:=5) (N:=some 18) (v:=?_) (a':=?_) #[true,true,true,true,true,true,false,false,false,false,false,false,false,false,false,false,false,false,false,false,false,false,false,false,false] rfl rfl (zAM HT_.out (by kernel_rfl)) (fun _ _ _ h=>h) (Or.inl ⟨by rfl,?_⟩) ?_ ?_
 rotate_left
 ·intro w'
  go_simp
  with_reducible rfl
 rotate_left
 ·simp only [Act.put,List.setIfInBounds_toArray,List.set_cons_zero,List.set_cons_succ,zAR,zAS]
  rfl
 refine pure_ (i:=6) (N:=some 19) (v:=?_) (a':=?_) #[true,true,true,true,true,true,true,false,false,false,false,false,false,false,false,false,false,false,false,false,false,false,false,false,false] rfl rfl (zAM HT_.out (by kernel_rfl)) (fun _ _ _ h=>h) (Or.inl ⟨by rfl,?_⟩) ?_ ?_
 rotate_left
 ·intro w'
  go_simp
  with_reducible rfl
 rotate_left
 ·simp only [Act.put,List.setIfInBounds_toArray,List.set_cons_zero,List.set_cons_succ,zAR,zAS]
  rfl
 refine take_ (i:=7) (N:=some 20) (v:=?_) (a':=?_) #[true,true,true,true,true,true,true,true,false,false,false,false,false,false,false,false,false,false,false,false,false,false,false,false,false] rfl rfl (take_ofW HT_.out HW_.out (by kernel_rfl)) (fun _ _ _ h=>h) (Or.inl ⟨by rfl,?_⟩) hHeld ?_ ?_
 rotate_left
 ·rintro w' ⟨s0,s1⟩
  go_simp
  with_reducible rfl
 rotate_left
 ·simp only [Act.put,List.setIfInBounds_toArray,List.set_cons_zero,List.set_cons_succ,zAR,zAS]
  rfl
 refine one_ (i:=8) (N:=some 21) #[true,true,true,true,true,true,true,true,true,false,false,false,false,false,false,false,false,false,false,false,false,false,false,false,false] rfl rfl (one_of HT_.out (by kernel_rfl)) (by decide) (fun K hK=>?_)
 refine goes_ Tryd.func17 (by kernel_rfl) rfl #[.int .i64 (-15)] (by rfl) rfl rfl aM_ ?_
 with_reducible refine (wide_Of.calls (-15) t242 t243 _ A5.out).mono ?_
 rintro e w17 ⟨rfl,hb⟩
 refine ⟨_,rfl,?_⟩
 have n0_:=aK_ (zAC (g:=gb239) (o:=.cells #[.int .i64 t236,.int .u64 t237] 27 (0,0)) (aB_ BK239.out) hb)
 have n1_:=aK_ (zAD (aI_ HB.out GE239.out) hb)
 clear BK239
 clear HB
 have BK239:=n0_
 have HB:=n1_
 clear n0_ n1_
 (try clear hb)
 (try clear hb2)
 (try clear hk)
 (try clear hi)
 refine hK.out _ _ ⟨(zAA BK239.out 0).trans rfl,(zAA BK239.out 1).trans rfl⟩ (fun hHeld=>?_)
 clear hK K
 refine norm_ (a':=?_) ?_ ?_
 rotate_left
 ·show Act.put _ (some 21) _=_
  simp only [Act.put,List.setIfInBounds_toArray,List.set_cons_zero,List.set_cons_succ,zAR,zAS]
  rfl
 refine pure_ (i:=9) (N:=some 22) (v:=?_) (a':=?_) #[true,true,true,true,true,true,true,true,true,true,false,false,false,false,false,false,false,false,false,false,false,false,false,false,false] rfl rfl (zAM HT_.out (by kernel_rfl)) (fun _ _ _ h=>h) (Or.inl ⟨by rfl,?_⟩) ?_ ?_
 rotate_left
 ·intro w'
  go_simp
  with_reducible rfl
 rotate_left
 ·simp only [Act.put,List.setIfInBounds_toArray,List.set_cons_zero,List.set_cons_succ,zAR,zAS]
  rfl
 refine pure_ (i:=10) (N:=some 23) (v:=?_) (a':=?_) #[true,true,true,true,true,true,true,true,true,true,true,false,false,false,false,false,false,false,false,false,false,false,false,false,false] rfl rfl (zAM HT_.out (by kernel_rfl)) (fun _ _ _ h=>h) (Or.inl ⟨by rfl,?_⟩) ?_ ?_
 rotate_left
 ·intro w'
  go_simp
  with_reducible rfl
 rotate_left
 ·simp only [Act.put,List.setIfInBounds_toArray,List.set_cons_zero,List.set_cons_succ,zAR,zAS]
  rfl
 refine pure_ (i:=11) (N:=some 24) (v:=?_) (a':=?_) #[true,true,true,true,true,true,true,true,true,true,true,true,false,false,false,false,false,false,false,false,false,false,false,false,false] rfl rfl (zAM HT_.out (by kernel_rfl)) (fun _ _ _ h=>h) (Or.inl ⟨by rfl,?_⟩) ?_ ?_
 rotate_left
 ·intro w'
  go_simp
  with_reducible rfl
 rotate_left
 ·simp only [Act.put,List.setIfInBounds_toArray,List.set_cons_zero,List.set_cons_succ,zAR,zAS]
  rfl
 refine pure_ (i:=12) (N:=some 25) (v:=?_) (a':=?_) #[true,true,true,true,true,true,true,true,true,true,true,true,true,false,false,false,false,false,false,false,false,false,false,false,false] rfl rfl (zAM HT_.out (by kernel_rfl)) (fun _ _ _ h=>h) (Or.inl ⟨by rfl,?_⟩) ?_ ?_
 rotate_left
 ·intro w'
  go_simp
  with_reducible rfl
 rotate_left
 ·simp only [Act.put,List.setIfInBounds_toArray,List.set_cons_zero,List.set_cons_succ,zAR,zAS]
  rfl
 refine pure_ (i:=13) (N:=some 26) (v:=?_) (a':=?_) #[true,true,true,true,true,true,true,true,true,true,true,true,true,true,false,false,false,false,false,false,false,false,false,false,false] rfl rfl (zAM HT_.out (by kernel_rfl)) (fun _ _ _ h=>h) (Or.inl ⟨by rfl,?_⟩) ?_ ?_
 rotate_left
 ·intro w'
  go_simp
  with_reducible rfl
 rotate_left
 ·simp only [Act.put,List.setIfInBounds_toArray,List.set_cons_zero,List.set_cons_succ,zAR,zAS]
  rfl
 refine pure_ (i:=14) (N:=some 27) (v:=?_) (a':=?_) #[true,true,true,true,true,true,true,true,true,true,true,true,true,true,true,false,false,false,false,false,false,false,false,false,false] rfl rfl (zAM HT_.out (by kernel_rfl)) (fun _ _ _ h=>h) (Or.inl ⟨by rfl,?_⟩) ?_ ?_
 rotate_left
 ·intro w'
  go_simp
  with_reducible rfl
 rotate_left
 ·simp only [Act.put,List.setIfInBounds_toArray,List.set_cons_zero,List.set_cons_succ,zAR,zAS]
  rfl
 refine pure_ (i:=15) (N:=some 28) (v:=?_) (a':=?_) #[true,true,true,true,true,true,true,true,true,true,true,true,true,true,true,true,false,false,false,false,false,false,false,false,false] rfl rfl (zAM HT_.out (by kernel_rfl)) (fun _ _ _ h=>h) (Or.inl ⟨by rfl,?_⟩) ?_ ?_
 rotate_left
 ·intro w'
  go_simp
  with_reducible rfl
 rotate_left
 ·simp only [Act.put,List.setIfInBounds_toArray,List.set_cons_zero,List.set_cons_succ,zAR,zAS]
  rfl
 refine one_ (i:=16) (N:=some 29) #[true,true,true,true,true,true,true,true,true,true,true,true,true,true,true,true,true,false,false,false,false,false,false,false,false] rfl rfl (one_of HT_.out (by kernel_rfl)) (by decide) (fun K hK=>?_)
 refine goes_ Tryd.func17 (by kernel_rfl) rfl #[.int .i64 (-15)] (by rfl) rfl rfl aM_ ?_
 with_reducible refine (wide_Of.calls (-15) t244 t245 _ A8.out).mono ?_
 rintro e w18 ⟨rfl,hb⟩
 refine ⟨_,rfl,?_⟩
 have n0_:=aK_ (zAC (g:=gb239) (o:=.cells #[.int .i64 t236,.int .u64 t237] 27 (0,0)) (aB_ BK239.out) hb)
 have n1_:=aK_ (zAD (aI_ HB.out GE239.out) hb)
 clear BK239
 clear HB
 have BK239:=n0_
 have HB:=n1_
 clear n0_ n1_
 (try clear hb)
 (try clear hb2)
 (try clear hk)
 (try clear hi)
 refine hK.out _ _ ⟨(zAA BK239.out 0).trans rfl,(zAA BK239.out 1).trans rfl⟩ (fun hHeld=>?_)
 clear hK K
 refine norm_ (a':=?_) ?_ ?_
 rotate_left
 ·show Act.put _ (some 29) _=_
  simp only [Act.put,List.setIfInBounds_toArray,List.set_cons_zero,List.set_cons_succ,zAR,zAS]
  rfl
 refine one_ (i:=17) (N:=some 30) #[true,true,true,true,true,true,true,true,true,true,true,true,true,true,true,true,true,true,false,false,false,false,false,false,false] rfl rfl (one_of HT_.out (by kernel_rfl)) (by decide) (fun K hK=>?_)
 refine goes_ Tryd.func8 (by kernel_rfl) rfl #[.agg #[.int .i64 t244,.int .u64 t245]] (by rfl) rfl rfl aM_ ?_
 with_reducible refine (deci_Text.calls k t244 t245 t246 _ ?side1 A9.out).mono ?_
 (case side1=>(first|(with_reducible exact hG)|((repeat (with_reducible first|exact hG|apply GW.drewN|apply GW.drew|apply GW.alloc));done)|exact GW.below hG (aI_ HB.out GE239.out)))
 rintro e w19 ⟨rfl,hb⟩
 refine ⟨_,rfl,?_⟩
 have n0_:=aK_ (zAC (g:=gb239) (o:=.cells #[.int .i64 t236,.int .u64 t237] 27 (0,0)) (aB_ BK239.out) hb)
 have n1_:=aK_ (zAD (aI_ HB.out GE239.out) hb)
 clear BK239
 clear HB
 have BK239:=n0_
 have HB:=n1_
 clear n0_ n1_
 (try clear hb)
 (try clear hb2)
 (try clear hk)
 (try clear hi)
 refine hK.out _ _ ⟨(zAA BK239.out 0).trans rfl,(zAA BK239.out 1).trans rfl⟩ (fun hHeld=>?_)
 clear hK K
 refine norm_ (a':=?_) ?_ ?_
 rotate_left
 ·show Act.put _ (some 30) _=_
  simp only [Act.put,List.setIfInBounds_toArray,List.set_cons_zero,List.set_cons_succ,zAR,zAS]
  rfl
 refine pure_ (i:=18) (N:=some 31) (v:=?_) (a':=?_) #[true,true,true,true,true,true,true,true,true,true,true,true,true,true,true,true,true,true,true,false,false,false,false,false,false] rfl rfl (zAM HT_.out (by kernel_rfl)) (fun _ _ _ h=>h) (Or.inl ⟨by rfl,?_⟩) ?_ ?_
 rotate_left
 ·intro w'
  go_simp
  with_reducible rfl
 rotate_left
 ·simp only [Act.put,List.setIfInBounds_toArray,List.set_cons_zero,List.set_cons_succ,zAR,zAS]
  rfl
 refine pure_ (i:=19) (N:=some 32) (v:=?_) (a':=?_) #[true,true,true,true,true,true,true,true,true,true,true,true,true,true,true,true,true,true,true,true,false,false,false,false,false] rfl rfl (zAM HT_.out (by kernel_rfl)) (fun _ _ _ h=>h) (Or.inl ⟨by rfl,?_⟩) ?_ ?_
 rotate_left
 ·intro w'
  go_simp
  with_reducible rfl
 rotate_left
 ·simp only [Act.put,List.setIfInBounds_toArray,List.set_cons_zero,List.set_cons_succ,zAR,zAS]
  rfl
 refine pure_ (i:=20) (N:=some 33) (v:=?_) (a':=?_) #[true,true,true,true,true,true,true,true,true,true,true,true,true,true,true,true,true,true,true,true,true,false,false,false,false] rfl rfl (zAM HT_.out (by kernel_rfl)) (fun _ _ _ h=>h) (Or.inl ⟨by rfl,?_⟩) ?_ ?_
 rotate_left
 ·intro w'
  go_simp
  with_reducible rfl
 rotate_left
 ·simp only [Act.put,List.setIfInBounds_toArray,List.set_cons_zero,List.set_cons_succ,zAR,zAS]
  rfl
 refine one_ (i:=21) (N:=some 34) #[true,true,true,true,true,true,true,true,true,true,true,true,true,true,true,true,true,true,true,true,true,true,false,false,false] rfl rfl (one_of HT_.out (by kernel_rfl)) (by decide) (fun K hK=>?_)
 refine goes_ Tryd.func13 (by kernel_rfl) rfl #[.int .i64 (-5)] (by rfl) rfl rfl aM_ ?_
 with_reducible refine (deci_Money.calls k (-5) t247 _ ?side1 A11.out).mono ?_
 (case side1=>(first|(with_reducible exact hG)|((repeat (with_reducible first|exact hG|apply GW.drewN|apply GW.drew|apply GW.alloc));done)|exact GW.below hG (aI_ HB.out GE239.out)))
 rintro e w20 ⟨rfl,hb⟩
 refine ⟨_,rfl,?_⟩
 have n0_:=aK_ (zAC (g:=gb239) (o:=.cells #[.int .i64 t236,.int .u64 t237] 27 (0,0)) (aB_ BK239.out) hb)
 have n1_:=aK_ (zAD (aI_ HB.out GE239.out) hb)
 clear BK239
 clear HB
 have BK239:=n0_
 have HB:=n1_
 clear n0_ n1_
 (try clear hb)
 (try clear hb2)
 (try clear hk)
 (try clear hi)
 refine hK.out _ _ ⟨(zAA BK239.out 0).trans rfl,(zAA BK239.out 1).trans rfl⟩ (fun hHeld=>?_)
 clear hK K
 refine norm_ (a':=?_) ?_ ?_
 rotate_left
 ·show Act.put _ (some 34) _=_
  simp only [Act.put,List.setIfInBounds_toArray,List.set_cons_zero,List.set_cons_succ,zAR,zAS]
  rfl
 refine pure_ (i:=22) (N:=some 35) (v:=?_) (a':=?_) #[true,true,true,true,true,true,true,true,true,true,true,true,true,true,true,true,true,true,true,true,true,true,true,false,false] rfl rfl (zAM HT_.out (by kernel_rfl)) (fun _ _ _ h=>h) (Or.inl ⟨by rfl,?_⟩) ?_ ?_
 rotate_left
 ·intro w'
  go_simp
  with_reducible rfl
 rotate_left
 ·simp only [Act.put,List.setIfInBounds_toArray,List.set_cons_zero,List.set_cons_succ,zAR,zAS]
  rfl
 refine pure_ (i:=23) (N:=some 36) (v:=?_) (a':=?_) #[true,true,true,true,true,true,true,true,true,true,true,true,true,true,true,true,true,true,true,true,true,true,true,true,false] rfl rfl (zAM HT_.out (by kernel_rfl)) (fun _ _ _ h=>h) (Or.inl ⟨by rfl,?_⟩) ?_ ?_
 rotate_left
 ·intro w'
  go_simp
  with_reducible rfl
 rotate_left
 ·simp only [Act.put,List.setIfInBounds_toArray,List.set_cons_zero,List.set_cons_succ,zAR,zAS]
  rfl
 refine pure_ (i:=24) (N:=some 0) (v:=?_) (a':=?_) #[true,true,true,true,true,true,true,true,true,true,true,true,true,true,true,true,true,true,true,true,true,true,true,true,true] rfl rfl (zAM HT_.out (by kernel_rfl)) (fun _ _ _ h=>h) (Or.inl ⟨by rfl,?_⟩) ?_ ?_
 rotate_left
 ·intro w'
  go_simp
  with_reducible rfl
 rotate_left
 ·simp only [Act.put,List.setIfInBounds_toArray,List.set_cons_zero,List.set_cons_succ,zAR,zAS]
  rfl
 refine done_ (done_of HT_.out (by kernel_rfl)) ?_
 try go_wp2
 go_ret
 exact ⟨by first|rfl|(simp [zAK,zAL] <;> rfl)|(simp [*,zAK,zAL] <;> rfl),aI_ HB.out GE239.out⟩
end Go.Proofs.YtkikekiokclmdaaDoor.S
